/- Tables and their document, part Mi of this seat's texts: plain facts and walks. No conditions. -/
import Derived.Test.YtccfjjaljckinaaQMh
import Derived.Deep.QuietTactic
import Derived.BigQuiet
/- One act on both tables: k0k. No conditions. -/
namespace Go.Proofs.Ytccfjjaljckinaa.Tag
open Go.RowKit Go.Lib Go.Shelf Go.Proofs.Ytccfjjaljckinaa.Mem Go.Proofs.Ytccfjjaljckinaa.IMap Go.Proofs.YtccfjjaljckinaaW.PrintWords Go.Proofs.YtccfjjaljckinaaW.PrintLast Go.Proofs.YtccfjjaljckinaaW.PrintMore Go.Proofs.Ytccfjjaljckinaa.PTagActs
set_option linter.unusedVariables false
set_option maxRecDepth 100000 in
set_option maxHeartbeats 8000000 in
theorem do_0ka {N m : Nat} {w : World} {O S U : Nat → Prop} {B D : Nat} {t : Tab} {r : RTab} {A : Option Addr} {c : Nat} {told : List Listed} (h : Duo N m w O S U B D t r A c told) {kind place xi xg xt xk xd : Int} {xn : Bool} (hk : restI kind 4 = 0) (hx : In64O ⟨xt, xn, xk, xd⟩) (hm : m ≤ 1000) (hM : mayE t xt = 0) :
    Calls Try.prog 19 #[.pointer (some ⟨B, 0, none⟩), .pointer (some ⟨D, 0, none⟩), .slice A told.length c, .agg #[.int .i64 kind, .int .i64 place, .bool false, .int .i64 xi, .int .i64 xg, .int .i64 xt, .bool xn, .int .i64 xk, .int .i64 xd]] w fun e w' => ∃ O' S' U' r' A' c', e = .returned (.tuple #[.slice A' (doT t told kind ⟨⟨xi, xg⟩, ⟨xt, xn, xk, xd⟩⟩).2.length c', .bool true]) ∧
      Duo N (m + 1) w' O' S' U' B D (doT t told kind ⟨⟨xi, xg⟩, ⟨xt, xn, xk, xd⟩⟩).1 r' A' c' (doT t told kind ⟨⟨xi, xg⟩, ⟨xt, xn, xk, xd⟩⟩).2 ∧ Below N w w' := by
  have HMy := Lib.hid hM
  clear hM
  have HSt0 := Lib.hid h
  have HK := Lib.hid hk
  have HM := Lib.hid hm
  have hlen := h.len
  have HOw : Hid (∀ k, O k → k < w.heap.size) := Lib.hid (fun k hk => (h.o k hk).2.1)
  have HDl : Hid (D < w.heap.size) := Lib.hid h.ref.lt
  have HFew := Lib.hid h.few
  have HSer := Lib.hid h.ser
  have HX0 := Lib.hid hx
  have hu36 := Try.underlying36
  have hu34 := Try.underlying34
  have hu32 := Try.underlying32
  have hu30 := Try.underlying30
  have hu28 := Try.underlying28
  have HFx := HX0
  clear h hk hx
  go_enter Try.func19, Try.ntmps19
  go_wp2_with fail
  refine gw (fun wb hwb => ?_)
  have HBw : Hid (Below w.heap.size w wb) := Lib.hid (by rw [← hwb]; exact ((Below.refl _ _).alloc (Nat.le_refl _) _).alloc (by simp) _)
  have HX : Hid (Blk wb (w.heap.size + 1) #[.int .i64 xi, .int .i64 xg, .int .i64 xt, .bool xn, .int .i64 xk, .int .i64 xd] 34) := Lib.hid (by rw [← hwb]; exact Blk.at_ (by simp) _ _)
  clear hwb
  refine (rest kind 4 (by decide) _).mono ?_
  rintro e wc0 ⟨rfl, q4, rfl⟩
  rw [HK.out]
  have HBc : Hid (Below w.heap.size w (wb.drewN q4)) := Lib.hid (bdn HBw.out q4)
  have HXc := Lib.hid (HX.out.drewN q4)
  generalize wb.drewN q4 = wc at *
  clear HBw HX
  have HSt := Lib.hid (HSt0.out.below HBc.out)
  have zc := HXc.out.lt
  have y0 := HXc.out.cell (j := 0) rfl
  have y1 := HXc.out.cell (j := 1) rfl
  have y2 := HXc.out.cell (j := 2) rfl
  have y3 := HXc.out.cell (j := 3) rfl
  have y4 := HXc.out.cell (j := 4) rfl
  have y5 := HXc.out.cell (j := 5) rfl
  go_wp2_with fail
  refine (issueAt HSt.out.tab (x := xt) (key := xk) (ins := xn) HFx.out.1 HFx.out.2.1 (by have := HFew.out; have := HM.out; omega) (by have := HSer.out; have := HM.out; omega)).mono ?_
  rintro e w4 ⟨he, ht4, hc4⟩
  have HXd := Lib.hid (HXc.out.keep hc4 (fun ho => by have := HOw.out _ ho; omega))
  have HC4 := Lib.hid hc4
  have z4 := hc4.size
  rw [show issueR t xt xn xk = (⟨⟨freeI t, lastI t + 1⟩, issueOp t xt xn xk⟩, 0, issueT t xt xn xk) from if_pos HMy.out] at he ht4
  change e = .returned (.tuple #[.agg #[.int .i64 (freeI t), .int .i64 (lastI t + 1), .int .i64 xt, .bool xn, .int .i64 (if xn then xk else 0), .int .i64 t.serial], .int .i64 0]) at he
  have HV : Hid (aggL (rissueX r (freeI t) xt xn xk) = .agg #[.int .i64 (freeI t), .int .i64 (lastI t + 1), .int .i64 xt, .bool xn, .int .i64 (if xn then xk else 0), .int .i64 t.serial]) := Lib.hid (by rw [HSt.out.rel.issueX]; rfl)
  have HRel := Lib.hid (HSt.out.rel.issue HSt.out.tab.good HMy.out xn xk)
  have HFree := Lib.hid (HSt.out.rel.firstFree HSt.out.tab.good)
  have HPos := Lib.hid (lastsPos HSt.out.tab.good HSt.out.rel)
  have HGl := Lib.hid (issue_grows (t := t) (x := xt) (ins := xn) (key := xk)).2
  have HT4 := Lib.hid ht4
  have HKb : Hid ((if xn then xk else 0) = 0 ∨ (if xn then xk else 0) = xk) := Lib.hid (by split; exact Or.inr rfl; exact Or.inl rfl)
  generalize hfi : (freeI t : Int) = fi at he HV
  generalize hgi : lastI t + 1 = gi at he HV
  generalize hki : (if xn then xk else 0) = ki at he HV HKb
  generalize hsd : t.serial = sd at he HV
  have HSd := Lib.hid hsd
  have Hfi := Lib.hid hfi
  have Hgi := Lib.hid hgi
  have Hki := Lib.hid hki
  subst he
  clear ht4 hc4 HXc y0 y1 y2 y3 y4 y5 hfi hgi hki hsd
  have zx := HXd.out.lt
  have zxn : w.heap.size + 1 ≠ w4.heap.size := by omega
  have y0 := HXd.out.cell (j := 0) rfl
  have y1 := HXd.out.cell (j := 1) rfl
  have y2 := HXd.out.cell (j := 2) rfl
  have y3 := HXd.out.cell (j := 3) rfl
  have y4 := HXd.out.cell (j := 4) rfl
  have y5 := HXd.out.cell (j := 5) rfl
  go_wp2_with fail
  refine gw (fun wd hwd => ?_)
  have HBd : Hid (Below w4.heap.size w4 wd) := Lib.hid (by rw [← hwd]; exact (Below.refl _ _).alloc (Nat.le_refl _) _)
  have HGd : Hid (Blk wd w4.heap.size #[.int .i64 fi, .int .i64 gi, .int .i64 xt, .bool xn, .int .i64 ki, .int .i64 sd] 34) := Lib.hid (by rw [← hwd]; exact Blk.new _ _ _)
  clear hwd HXd y0 y1 y2 y3 y4 y5 zx zxn
  have HRf := Lib.hid ((HSt.out.refKeep HC4.out).below HBd.out)
  have hfw := HSt.out.tab.good.few
  have hrl := HSt.out.rel.len
  have hlv := liveN_le t.slots
  refine (rissueAt HRf.out (by omega) (by rw [HSt.out.rel.lastsLen]; omega) (x := xt) (key := xk) (ins := xn) (by rw [HSt.out.rel.may]; exact HMy.out) (by rw [HSt.out.rel.serial]; have := HSer.out; have := HM.out; omega) (by rw [HSt.out.rel.serial]; exact HSer.out.1) HFree.out HPos.out).mono ?_
  rintro e w5 ⟨rfl, ⟨S', hr5, hS5⟩, hc5⟩
  rw [HV.out]
  have HC5 := Lib.hid hc5
  have HR5 := Lib.hid hr5
  have HS5 := Lib.hid hS5
  have HGe := Lib.hid (HGd.out.keep hc5 (by have := HDl.out; have := HBc.out.size; omega))
  have z5 := hc5.size
  have zg := HGd.out.lt
  have HRow5 := Lib.hid (Kd.F_step (Kd.F_below (HSt.out.rowKeep HC4.out) HBd.out) (fun k hk _ => hc5.block k (by have := (HSt.out.u k hk).1; have := HBd.out.size; omega) (fun e => (HSt.out.u k hk).2 e)))
  clear hc5 hr5 hS5 HGd HRf hfw hrl hlv HV
  go_wp2_with fail
  refine gwP (fun wf hwf => ?_)
  have HBf : Hid (Below w5.heap.size w5 wf) := Lib.hid (by rw [← hwf]; exact (Below.refl _ _).alloc (Nat.le_refl _) _)
  have HHf : Hid (Blk wf w5.heap.size #[.int .i64 fi, .int .i64 gi, .int .i64 xt, .bool xn, .int .i64 ki, .int .i64 sd] 34) := Lib.hid (by rw [← hwf]; exact Blk.new _ _ _)
  have HGf := Lib.hid (HGe.out.below HBf.out)
  clear hwf HGe
  have HRowf := Lib.hid (Kd.F_below HRow5.out HBf.out)
  have hl3 : told.length ≤ 1000 := by have := HM.out; omega
  refine told_region (Y := w5.heap.size) (x := ⟨⟨fi, gi⟩, ⟨xt, xn, ki, sd⟩⟩) (told := told) (A := _) (c := c) (by rfl) (by rfl) (by rfl) HHf.out HRowf.out hl3 (fun u0 u1 u2 u3 u4 u5 v7 w7 hb7 hR7 => ?_)
  obtain ⟨A7, c7, rfl, hc7, hF7⟩ := told_row hR7
  have HB7 := Lib.hid hb7
  have HF7 := Lib.hid hF7
  have HC7 := Lib.hid hc7
  have HG7 := Lib.hid (HGf.out.below hb7)
  have HH7 := Lib.hid (HHf.out.below hb7)
  clear hb7 hR7 hl3 hc7 hF7
  have g0 := HG7.out.cell (j := 0) rfl
  have g1 := HG7.out.cell (j := 1) rfl
  have g2 := HG7.out.cell (j := 2) rfl
  have g3 := HG7.out.cell (j := 3) rfl
  have g4 := HG7.out.cell (j := 4) rfl
  have g5 := HG7.out.cell (j := 5) rfl
  have h0 := HH7.out.cell (j := 0) rfl
  have h1 := HH7.out.cell (j := 1) rfl
  have h2 := HH7.out.cell (j := 2) rfl
  have h3 := HH7.out.cell (j := 3) rfl
  have h4 := HH7.out.cell (j := 4) rfl
  have h5 := HH7.out.cell (j := 5) rfl
  simp only [Rg.fillA, Go.Act.put, List.setIfInBounds_toArray, List.set_cons_zero, List.set_cons_succ]
  go_wp2_with fail
  go_quiet (fail)
  go_wp2_with fail
  go_ret2
  obtain ⟨hd, hb⟩ := HSt.out.both (m' := m + 1) (O' := More O wc wd) (w2 := w5) (Or.inr rfl) (HC4.out.trans (Chg.of_below (S := fun _ => False) HBd.out) (fun _ _ h => h.elim)) ((HT4.out.wider (fun k hk => hk.imp id (fun h => ⟨h.1, Nat.lt_of_lt_of_le h.2 HBd.out.size⟩))).below HBd.out) HS5.out HC5.out HR5.out HRel.out (by omega) (by have := HFew.out; have := HGl.out; omega) (by have := HSer.out; show 0 ≤ t.serial + 1 ∧ t.serial + 1 ≤ ((m + 1 : Nat) : Int); omega)
  have ed : doT t told kind ⟨⟨xi, xg⟩, ⟨xt, xn, xk, xd⟩⟩ = (issueT t xt xn xk, told ++ [⟨⟨fi, gi⟩, ⟨xt, xn, ki, sd⟩⟩]) := by unfold doT; rw [if_pos HK.out, if_pos HMy.out]; show (issueT t xt xn xk, told ++ [(⟨⟨(freeI t : Int), lastI t + 1⟩, ⟨xt, xn, if xn then xk else 0, t.serial⟩⟩ : Listed)]) = _; rw [Hfi.out, Hgi.out, Hki.out, HSd.out]
  rw [ed]
  have hfin : ∀ wz, Below w7.heap.size w7 wz → Below w5.heap.size w5 wz := fun wz h => (HBf.out.trans (HB7.out.mono HBf.out.size)).trans (h.mono (Nat.le_trans HBf.out.size HB7.out.size))
  have hlm := HM.out
  have hd2 : ∀ wz, Below w7.heap.size w7 wz → Duo N (m + 1) wz _ _ _ B D _ _ A7 c7 (told ++ [⟨⟨fi, gi⟩, ⟨xt, xn, ki, sd⟩⟩]) := fun wz h => hd.turn (hfin wz h) (Kd.F_below HF7.out h) HC7.out (fun k hk => ⟨Nat.le_trans HBf.out.size hk.1, Nat.lt_of_lt_of_le hk.2 h.size⟩) (by simp; omega) (fun y hy => by
    rcases List.mem_append.1 hy with hy | hy
    · exact HSt0.out.fits y hy
    · obtain rfl := List.mem_singleton.1 hy
      have h1 := HFx.out
      have h2 := HKb.out
      have h3 := HSer.out
      have h4 := HSd.out
      exact ⟨h1.1, by rcases h2 with h2 | h2 <;> (simp only [h2]; first | exact h1.2.1 | (unfold In64; omega)), by unfold In64; simp only; omega⟩)
  exact ⟨_, _, _, _, _, _, rfl, hd2 _ (by repeat (first | exact Below.refl _ _ | refine bdn ?_ _)), (HBc.out.mono HSt0.out.n).trans (hb.trans ((hfin _ (by repeat (first | exact Below.refl _ _ | refine bdn ?_ _))).mono (by have := HSt.out.n; have := HBd.out.size; omega)))⟩

set_option maxRecDepth 100000 in
set_option maxHeartbeats 8000000 in
theorem do_0kb {N m : Nat} {w : World} {O S U : Nat → Prop} {B D : Nat} {t : Tab} {r : RTab} {A : Option Addr} {c : Nat} {told : List Listed} (h : Duo N m w O S U B D t r A c told) {kind place xi xg xt xk xd : Int} {xn : Bool} (hk : restI kind 4 = 0) (h0 : told.length = 0) (hx : In64O ⟨xt, xn, xk, xd⟩) (hm : m ≤ 1000) (hM : mayE t xt = 0) :
    Calls Try.prog 19 #[.pointer (some ⟨B, 0, none⟩), .pointer (some ⟨D, 0, none⟩), .slice A told.length c, .agg #[.int .i64 kind, .int .i64 place, .bool true, .int .i64 xi, .int .i64 xg, .int .i64 xt, .bool xn, .int .i64 xk, .int .i64 xd]] w fun e w' => ∃ O' S' U' r' A' c', e = .returned (.tuple #[.slice A' (doT t told kind ⟨⟨xi, xg⟩, ⟨xt, xn, xk, xd⟩⟩).2.length c', .bool true]) ∧
      Duo N (m + 1) w' O' S' U' B D (doT t told kind ⟨⟨xi, xg⟩, ⟨xt, xn, xk, xd⟩⟩).1 r' A' c' (doT t told kind ⟨⟨xi, xg⟩, ⟨xt, xn, xk, xd⟩⟩).2 ∧ Below N w w' := by
  have HMy := Lib.hid hM
  clear hM
  have HSt0 := Lib.hid h
  have HK := Lib.hid hk
  have HM := Lib.hid hm
  have hlen := h.len
  have HOw : Hid (∀ k, O k → k < w.heap.size) := Lib.hid (fun k hk => (h.o k hk).2.1)
  have HDl : Hid (D < w.heap.size) := Lib.hid h.ref.lt
  have HFew := Lib.hid h.few
  have HSer := Lib.hid h.ser
  have HX0 := Lib.hid hx
  have hu36 := Try.underlying36
  have hu34 := Try.underlying34
  have hu32 := Try.underlying32
  have hu30 := Try.underlying30
  have hu28 := Try.underlying28
  have HFx := HX0
  obtain rfl : told = [] := List.length_eq_zero_iff.1 h0
  clear h0
  clear h hk hx
  go_enter Try.func19, Try.ntmps19
  go_wp2_with fail
  refine gw (fun wb hwb => ?_)
  have HBw : Hid (Below w.heap.size w wb) := Lib.hid (by rw [← hwb]; exact ((Below.refl _ _).alloc (Nat.le_refl _) _).alloc (by simp) _)
  have HX : Hid (Blk wb (w.heap.size + 1) #[.int .i64 xi, .int .i64 xg, .int .i64 xt, .bool xn, .int .i64 xk, .int .i64 xd] 34) := Lib.hid (by rw [← hwb]; exact Blk.at_ (by simp) _ _)
  clear hwb
  refine (rest kind 4 (by decide) _).mono ?_
  rintro e wc0 ⟨rfl, q4, rfl⟩
  rw [HK.out]
  have HBc : Hid (Below w.heap.size w (wb.drewN q4)) := Lib.hid (bdn HBw.out q4)
  have HXc := Lib.hid (HX.out.drewN q4)
  generalize wb.drewN q4 = wc at *
  clear HBw HX
  have HSt := Lib.hid (HSt0.out.below HBc.out)
  have zc := HXc.out.lt
  have y0 := HXc.out.cell (j := 0) rfl
  have y1 := HXc.out.cell (j := 1) rfl
  have y2 := HXc.out.cell (j := 2) rfl
  have y3 := HXc.out.cell (j := 3) rfl
  have y4 := HXc.out.cell (j := 4) rfl
  have y5 := HXc.out.cell (j := 5) rfl
  go_wp2_with fail
  refine (issueAt HSt.out.tab (x := xt) (key := xk) (ins := xn) HFx.out.1 HFx.out.2.1 (by have := HFew.out; have := HM.out; omega) (by have := HSer.out; have := HM.out; omega)).mono ?_
  rintro e w4 ⟨he, ht4, hc4⟩
  have HXd := Lib.hid (HXc.out.keep hc4 (fun ho => by have := HOw.out _ ho; omega))
  have HC4 := Lib.hid hc4
  have z4 := hc4.size
  rw [show issueR t xt xn xk = (⟨⟨freeI t, lastI t + 1⟩, issueOp t xt xn xk⟩, 0, issueT t xt xn xk) from if_pos HMy.out] at he ht4
  change e = .returned (.tuple #[.agg #[.int .i64 (freeI t), .int .i64 (lastI t + 1), .int .i64 xt, .bool xn, .int .i64 (if xn then xk else 0), .int .i64 t.serial], .int .i64 0]) at he
  have HV : Hid (aggL (rissueX r (freeI t) xt xn xk) = .agg #[.int .i64 (freeI t), .int .i64 (lastI t + 1), .int .i64 xt, .bool xn, .int .i64 (if xn then xk else 0), .int .i64 t.serial]) := Lib.hid (by rw [HSt.out.rel.issueX]; rfl)
  have HRel := Lib.hid (HSt.out.rel.issue HSt.out.tab.good HMy.out xn xk)
  have HFree := Lib.hid (HSt.out.rel.firstFree HSt.out.tab.good)
  have HPos := Lib.hid (lastsPos HSt.out.tab.good HSt.out.rel)
  have HGl := Lib.hid (issue_grows (t := t) (x := xt) (ins := xn) (key := xk)).2
  have HT4 := Lib.hid ht4
  have HKb : Hid ((if xn then xk else 0) = 0 ∨ (if xn then xk else 0) = xk) := Lib.hid (by split; exact Or.inr rfl; exact Or.inl rfl)
  generalize hfi : (freeI t : Int) = fi at he HV
  generalize hgi : lastI t + 1 = gi at he HV
  generalize hki : (if xn then xk else 0) = ki at he HV HKb
  generalize hsd : t.serial = sd at he HV
  have HSd := Lib.hid hsd
  have Hfi := Lib.hid hfi
  have Hgi := Lib.hid hgi
  have Hki := Lib.hid hki
  subst he
  clear ht4 hc4 HXc y0 y1 y2 y3 y4 y5 hfi hgi hki hsd
  have zx := HXd.out.lt
  have zxn : w.heap.size + 1 ≠ w4.heap.size := by omega
  have y0 := HXd.out.cell (j := 0) rfl
  have y1 := HXd.out.cell (j := 1) rfl
  have y2 := HXd.out.cell (j := 2) rfl
  have y3 := HXd.out.cell (j := 3) rfl
  have y4 := HXd.out.cell (j := 4) rfl
  have y5 := HXd.out.cell (j := 5) rfl
  go_wp2_with fail
  refine gw (fun wd hwd => ?_)
  have HBd : Hid (Below w4.heap.size w4 wd) := Lib.hid (by rw [← hwd]; exact (Below.refl _ _).alloc (Nat.le_refl _) _)
  have HGd : Hid (Blk wd w4.heap.size #[.int .i64 fi, .int .i64 gi, .int .i64 xt, .bool xn, .int .i64 ki, .int .i64 sd] 34) := Lib.hid (by rw [← hwd]; exact Blk.new _ _ _)
  clear hwd HXd y0 y1 y2 y3 y4 y5 zx zxn
  have HRf := Lib.hid ((HSt.out.refKeep HC4.out).below HBd.out)
  have hfw := HSt.out.tab.good.few
  have hrl := HSt.out.rel.len
  have hlv := liveN_le t.slots
  refine (rissueAt HRf.out (by omega) (by rw [HSt.out.rel.lastsLen]; omega) (x := xt) (key := xk) (ins := xn) (by rw [HSt.out.rel.may]; exact HMy.out) (by rw [HSt.out.rel.serial]; have := HSer.out; have := HM.out; omega) (by rw [HSt.out.rel.serial]; exact HSer.out.1) HFree.out HPos.out).mono ?_
  rintro e w5 ⟨rfl, ⟨S', hr5, hS5⟩, hc5⟩
  rw [HV.out]
  have HC5 := Lib.hid hc5
  have HR5 := Lib.hid hr5
  have HS5 := Lib.hid hS5
  have HGe := Lib.hid (HGd.out.keep hc5 (by have := HDl.out; have := HBc.out.size; omega))
  have z5 := hc5.size
  have zg := HGd.out.lt
  have HRow5 := Lib.hid (Kd.F_step (Kd.F_below (HSt.out.rowKeep HC4.out) HBd.out) (fun k hk _ => hc5.block k (by have := (HSt.out.u k hk).1; have := HBd.out.size; omega) (fun e => (HSt.out.u k hk).2 e)))
  clear hc5 hr5 hS5 HGd HRf hfw hrl hlv HV
  go_wp2_with fail
  refine gwP (fun wf hwf => ?_)
  have HBf : Hid (Below w5.heap.size w5 wf) := Lib.hid (by rw [← hwf]; exact (Below.refl _ _).alloc (Nat.le_refl _) _)
  have HHf : Hid (Blk wf w5.heap.size #[.int .i64 fi, .int .i64 gi, .int .i64 xt, .bool xn, .int .i64 ki, .int .i64 sd] 34) := Lib.hid (by rw [← hwf]; exact Blk.new _ _ _)
  have HGf := Lib.hid (HGe.out.below HBf.out)
  clear hwf HGe
  have HRowf := Lib.hid (Kd.F_below HRow5.out HBf.out)
  have hl3 : ([] : List Listed).length ≤ 1000 := by simp
  refine told_region (Y := w5.heap.size) (x := ⟨⟨fi, gi⟩, ⟨xt, xn, ki, sd⟩⟩) (told := []) (A := _) (c := c) (by rfl) (by rfl) (by rfl) HHf.out HRowf.out hl3 (fun u0 u1 u2 u3 u4 u5 v7 w7 hb7 hR7 => ?_)
  obtain ⟨A7, c7, rfl, hc7, hF7⟩ := told_row hR7
  have HB7 := Lib.hid hb7
  have HF7 := Lib.hid hF7
  have HC7 := Lib.hid hc7
  have HG7 := Lib.hid (HGf.out.below hb7)
  have HH7 := Lib.hid (HHf.out.below hb7)
  clear hb7 hR7 hl3 hc7 hF7
  have g0 := HG7.out.cell (j := 0) rfl
  have g1 := HG7.out.cell (j := 1) rfl
  have g2 := HG7.out.cell (j := 2) rfl
  have g3 := HG7.out.cell (j := 3) rfl
  have g4 := HG7.out.cell (j := 4) rfl
  have g5 := HG7.out.cell (j := 5) rfl
  have h0 := HH7.out.cell (j := 0) rfl
  have h1 := HH7.out.cell (j := 1) rfl
  have h2 := HH7.out.cell (j := 2) rfl
  have h3 := HH7.out.cell (j := 3) rfl
  have h4 := HH7.out.cell (j := 4) rfl
  have h5 := HH7.out.cell (j := 5) rfl
  simp only [Rg.fillA, Go.Act.put, List.setIfInBounds_toArray, List.set_cons_zero, List.set_cons_succ]
  go_wp2_with fail
  go_quiet (fail)
  go_wp2_with fail
  go_ret2
  obtain ⟨hd, hb⟩ := HSt.out.both (m' := m + 1) (O' := More O wc wd) (w2 := w5) (Or.inr rfl) (HC4.out.trans (Chg.of_below (S := fun _ => False) HBd.out) (fun _ _ h => h.elim)) ((HT4.out.wider (fun k hk => hk.imp id (fun h => ⟨h.1, Nat.lt_of_lt_of_le h.2 HBd.out.size⟩))).below HBd.out) HS5.out HC5.out HR5.out HRel.out (by omega) (by have := HFew.out; have := HGl.out; omega) (by have := HSer.out; show 0 ≤ t.serial + 1 ∧ t.serial + 1 ≤ ((m + 1 : Nat) : Int); omega)
  have ed : doT t [] kind ⟨⟨xi, xg⟩, ⟨xt, xn, xk, xd⟩⟩ = (issueT t xt xn xk, [] ++ [⟨⟨fi, gi⟩, ⟨xt, xn, ki, sd⟩⟩]) := by unfold doT; rw [if_pos HK.out, if_pos HMy.out]; show (issueT t xt xn xk, [] ++ [(⟨⟨(freeI t : Int), lastI t + 1⟩, ⟨xt, xn, if xn then xk else 0, t.serial⟩⟩ : Listed)]) = _; rw [Hfi.out, Hgi.out, Hki.out, HSd.out]
  rw [ed]
  have hfin : ∀ wz, Below w7.heap.size w7 wz → Below w5.heap.size w5 wz := fun wz h => (HBf.out.trans (HB7.out.mono HBf.out.size)).trans (h.mono (Nat.le_trans HBf.out.size HB7.out.size))
  have hlm := HM.out
  have hd2 : ∀ wz, Below w7.heap.size w7 wz → Duo N (m + 1) wz _ _ _ B D _ _ A7 c7 ([] ++ [⟨⟨fi, gi⟩, ⟨xt, xn, ki, sd⟩⟩]) := fun wz h => hd.turn (hfin wz h) (Kd.F_below HF7.out h) HC7.out (fun k hk => ⟨Nat.le_trans HBf.out.size hk.1, Nat.lt_of_lt_of_le hk.2 h.size⟩) (by simp) (fun y hy => by
    rcases List.mem_append.1 hy with hy | hy
    · exact HSt0.out.fits y hy
    · obtain rfl := List.mem_singleton.1 hy
      have h1 := HFx.out
      have h2 := HKb.out
      have h3 := HSer.out
      have h4 := HSd.out
      exact ⟨h1.1, by rcases h2 with h2 | h2 <;> (simp only [h2]; first | exact h1.2.1 | (unfold In64; omega)), by unfold In64; simp only; omega⟩)
  exact ⟨_, _, _, _, _, _, rfl, hd2 _ (by repeat (first | exact Below.refl _ _ | refine bdn ?_ _)), (HBc.out.mono HSt0.out.n).trans (hb.trans ((hfin _ (by repeat (first | exact Below.refl _ _ | refine bdn ?_ _))).mono (by have := HSt.out.n; have := HBd.out.size; omega)))⟩

set_option maxRecDepth 100000 in
set_option maxHeartbeats 8000000 in
theorem do_0kc {N m : Nat} {w : World} {O S U : Nat → Prop} {B D : Nat} {t : Tab} {r : RTab} {A : Option Addr} {c : Nat} {told : List Listed} (h : Duo N m w O S U B D t r A c told) {kind place xi xg xt xk xd : Int} {xn : Bool} (hk : restI kind 4 = 0) {ix : Nat} {yi yg yt yk yd : Int} {yn : Bool} (hri : restI place told.length = ix) (hy : told[ix]? = some ⟨⟨yi, yg⟩, ⟨yt, yn, yk, yd⟩⟩) (hx : In64O ⟨xt, xn, xk, xd⟩) (hm : m ≤ 1000) (hM : mayE t xt = 0) :
    Calls Try.prog 19 #[.pointer (some ⟨B, 0, none⟩), .pointer (some ⟨D, 0, none⟩), .slice A told.length c, .agg #[.int .i64 kind, .int .i64 place, .bool true, .int .i64 xi, .int .i64 xg, .int .i64 xt, .bool xn, .int .i64 xk, .int .i64 xd]] w fun e w' => ∃ O' S' U' r' A' c', e = .returned (.tuple #[.slice A' (doT t told kind ⟨⟨yi, yg⟩, ⟨xt, xn, xk, xd⟩⟩).2.length c', .bool true]) ∧
      Duo N (m + 1) w' O' S' U' B D (doT t told kind ⟨⟨yi, yg⟩, ⟨xt, xn, xk, xd⟩⟩).1 r' A' c' (doT t told kind ⟨⟨yi, yg⟩, ⟨xt, xn, xk, xd⟩⟩).2 ∧ Below N w w' := by
  have HMy := Lib.hid hM
  clear hM
  have HSt0 := Lib.hid h
  have HK := Lib.hid hk
  have HM := Lib.hid hm
  have hlen := h.len
  have HOw : Hid (∀ k, O k → k < w.heap.size) := Lib.hid (fun k hk => (h.o k hk).2.1)
  have HDl : Hid (D < w.heap.size) := Lib.hid h.ref.lt
  have HFew := Lib.hid h.few
  have HSer := Lib.hid h.ser
  have HX0 := Lib.hid hx
  have hu36 := Try.underlying36
  have hu34 := Try.underlying34
  have hu32 := Try.underlying32
  have hu30 := Try.underlying30
  have hu28 := Try.underlying28
  have HFx : Hid (In64O ⟨xt, xn, xk, xd⟩) := HX0
  have hixl := (List.getElem?_eq_some_iff.1 hy).1
  clear h hk hx
  have tpos : decide ((told.length : Int) > 0) = true := decide_eq_true (by omega)
  go_enter Try.func19, Try.ntmps19
  go_wp2_with fail
  refine gw (fun wa hwa => ?_)
  have HBa : Hid (Below w.heap.size w wa) := Lib.hid (by rw [← hwa]; exact ((Below.refl _ _).alloc (Nat.le_refl _) _).alloc (by simp) _)
  have HAa : Hid (Blk wa w.heap.size #[.int .i64 kind, .int .i64 place, .bool true, .int .i64 xi, .int .i64 xg, .int .i64 xt, .bool xn, .int .i64 xk, .int .i64 xd] 36) := Lib.hid (by rw [← hwa]; exact (Blk.new _ _ _).alloc _)
  have HXa : Hid (Blk wa (w.heap.size + 1) #[.int .i64 xi, .int .i64 xg, .int .i64 xt, .bool xn, .int .i64 xk, .int .i64 xd] 34) := Lib.hid (by rw [← hwa]; exact Blk.at_ (by simp) _ _)
  clear hwa
  refine (rest place (told.length : Int) (by omega) _).mono ?_
  rintro e w3 ⟨rfl, q3, rfl⟩
  rw [hri]
  have HB3 : Hid (Below w.heap.size w (wa.drewN q3)) := Lib.hid (bdn HBa.out q3)
  have HA3 : Hid (Blk (wa.drewN q3) w.heap.size #[.int .i64 kind, .int .i64 place, .bool true, .int .i64 xi, .int .i64 xg, .int .i64 xt, .bool xn, .int .i64 xk, .int .i64 xd] 36) := Lib.hid (HAa.out.drewN q3)
  have HX3 : Hid (Blk (wa.drewN q3) (w.heap.size + 1) #[.int .i64 xi, .int .i64 xg, .int .i64 xt, .bool xn, .int .i64 xk, .int .i64 xd] 34) := Lib.hid (HXa.out.drewN q3)
  generalize wa.drewN q3 = w3 at *
  clear HBa HAa HXa
  obtain ⟨ad, hA, r0, r1, r2, r3, r4, r5⟩ := row_at (Kd.F_now (HSt0.out.below HB3.out).row) hy
  subst hA
  have hx3 := HX3.out.lt
  have ha3 := HA3.out.lt
  have hne3 : w.heap.size ≠ w3.heap.size := by omega
  have hne4 : w.heap.size + 1 ≠ w3.heap.size := by omega
  have hi30 : (0 : Int) ≤ ix := by omega
  have hi3N : (ix : Int) < told.length := by omega
  have e3 : (ix : Int).toNat = ix := by omega
  have g0 := HA3.out.cell (j := 0) rfl
  have y0 := HX3.out.cell (j := 0) rfl
  have y1 := HX3.out.cell (j := 1) rfl
  have y2 := HX3.out.cell (j := 2) rfl
  have y3 := HX3.out.cell (j := 3) rfl
  have y4 := HX3.out.cell (j := 4) rfl
  have y5 := HX3.out.cell (j := 5) rfl
  have yf0 := HX3.out.free 0
  have yf1 := HX3.out.free 1
  have yf2 := HX3.out.free 2
  have yf3 := HX3.out.free 3
  have yf4 := HX3.out.free 4
  have yf5 := HX3.out.free 5
  go_wp2_with fail
  refine gw (fun wb0 hwb => ?_)
  have HBw0 : Hid (Below w.heap.size w wb0) := Lib.hid (by rw [← hwb]; exact ((HB3.out.setCell (by simp) _).setCell (by simp) _).alloc (by have := HB3.out.size; simp; omega) _)
  have HX0 : Hid (Blk wb0 (w.heap.size + 1) #[.int .i64 yi, .int .i64 yg, .int .i64 xt, .bool xn, .int .i64 xk, .int .i64 xd] 34) := Lib.hid (by rw [← hwb]; exact ((HX3.out.set 0 _).set 1 _).alloc _)
  have HY0 : Hid (Blk wb0 w3.heap.size #[.int .i64 yi, .int .i64 yg, .int .i64 yt, .bool yn, .int .i64 yk, .int .i64 yd] 34) := Lib.hid (by rw [← hwb]; exact Blk.at_ (by simp) _ _)
  have HA0 : Hid (Blk wb0 w.heap.size #[.int .i64 kind, .int .i64 place, .bool true, .int .i64 xi, .int .i64 xg, .int .i64 xt, .bool xn, .int .i64 xk, .int .i64 xd] 36) := Lib.hid (by rw [← hwb]; exact ((HA3.out.far (p := ⟨w.heap.size + 1, 0, none⟩) (by simp) _).far (p := ⟨w.heap.size + 1, 1, none⟩) (by simp) _).alloc _)
  clear hwb HB3 HA3 r0 r1 r2 r3 r4 r5 g0 y0 y1 y2 y3 y4 y5 yf0 yf1 yf2 yf3 yf4 yf5 hi30 hi3N e3
  refine (rest kind 4 (by decide) _).mono ?_
  rintro e w5 ⟨rfl, q5, rfl⟩
  rw [HK.out]
  have HBw1 : Hid (Below w.heap.size w (wb0.drewN q5)) := Lib.hid (bdn HBw0.out q5)
  have HX1 := Lib.hid (HX0.out.drewN q5)
  have HY1 := Lib.hid (HY0.out.drewN q5)
  have HA1 := Lib.hid (HA0.out.drewN q5)
  generalize wb0.drewN q5 = wb1 at *
  clear HBw0 HX0 HY0 HA0
  have g0 := HA1.out.cell (j := 0) rfl
  go_wp2_with fail
  have HBw := HBw1
  have HX := HX1
  clear HBw1 HX1 HY1 HA1 g0
  generalize wb1 = wb at *
  refine (rest kind 4 (by decide) _).mono ?_
  rintro e wc0 ⟨rfl, q4, rfl⟩
  rw [HK.out]
  have HBc : Hid (Below w.heap.size w (wb.drewN q4)) := Lib.hid (bdn HBw.out q4)
  have HXc := Lib.hid (HX.out.drewN q4)
  generalize wb.drewN q4 = wc at *
  clear HBw HX
  have HSt := Lib.hid (HSt0.out.below HBc.out)
  have zc := HXc.out.lt
  have y0 := HXc.out.cell (j := 0) rfl
  have y1 := HXc.out.cell (j := 1) rfl
  have y2 := HXc.out.cell (j := 2) rfl
  have y3 := HXc.out.cell (j := 3) rfl
  have y4 := HXc.out.cell (j := 4) rfl
  have y5 := HXc.out.cell (j := 5) rfl
  go_wp2_with fail
  refine (issueAt HSt.out.tab (x := xt) (key := xk) (ins := xn) HFx.out.1 HFx.out.2.1 (by have := HFew.out; have := HM.out; omega) (by have := HSer.out; have := HM.out; omega)).mono ?_
  rintro e w4 ⟨he, ht4, hc4⟩
  have HXd := Lib.hid (HXc.out.keep hc4 (fun ho => by have := HOw.out _ ho; omega))
  have HC4 := Lib.hid hc4
  have z4 := hc4.size
  rw [show issueR t xt xn xk = (⟨⟨freeI t, lastI t + 1⟩, issueOp t xt xn xk⟩, 0, issueT t xt xn xk) from if_pos HMy.out] at he ht4
  change e = .returned (.tuple #[.agg #[.int .i64 (freeI t), .int .i64 (lastI t + 1), .int .i64 xt, .bool xn, .int .i64 (if xn then xk else 0), .int .i64 t.serial], .int .i64 0]) at he
  have HV : Hid (aggL (rissueX r (freeI t) xt xn xk) = .agg #[.int .i64 (freeI t), .int .i64 (lastI t + 1), .int .i64 xt, .bool xn, .int .i64 (if xn then xk else 0), .int .i64 t.serial]) := Lib.hid (by rw [HSt.out.rel.issueX]; rfl)
  have HRel := Lib.hid (HSt.out.rel.issue HSt.out.tab.good HMy.out xn xk)
  have HFree := Lib.hid (HSt.out.rel.firstFree HSt.out.tab.good)
  have HPos := Lib.hid (lastsPos HSt.out.tab.good HSt.out.rel)
  have HGl := Lib.hid (issue_grows (t := t) (x := xt) (ins := xn) (key := xk)).2
  have HT4 := Lib.hid ht4
  have HKb : Hid ((if xn then xk else 0) = 0 ∨ (if xn then xk else 0) = xk) := Lib.hid (by split; exact Or.inr rfl; exact Or.inl rfl)
  generalize hfi : (freeI t : Int) = fi at he HV
  generalize hgi : lastI t + 1 = gi at he HV
  generalize hki : (if xn then xk else 0) = ki at he HV HKb
  generalize hsd : t.serial = sd at he HV
  have HSd := Lib.hid hsd
  have Hfi := Lib.hid hfi
  have Hgi := Lib.hid hgi
  have Hki := Lib.hid hki
  subst he
  clear ht4 hc4 HXc y0 y1 y2 y3 y4 y5 hfi hgi hki hsd
  have zx := HXd.out.lt
  have zxn : w.heap.size + 1 ≠ w4.heap.size := by omega
  have y0 := HXd.out.cell (j := 0) rfl
  have y1 := HXd.out.cell (j := 1) rfl
  have y2 := HXd.out.cell (j := 2) rfl
  have y3 := HXd.out.cell (j := 3) rfl
  have y4 := HXd.out.cell (j := 4) rfl
  have y5 := HXd.out.cell (j := 5) rfl
  go_wp2_with fail
  refine gw (fun wd hwd => ?_)
  have HBd : Hid (Below w4.heap.size w4 wd) := Lib.hid (by rw [← hwd]; exact (Below.refl _ _).alloc (Nat.le_refl _) _)
  have HGd : Hid (Blk wd w4.heap.size #[.int .i64 fi, .int .i64 gi, .int .i64 xt, .bool xn, .int .i64 ki, .int .i64 sd] 34) := Lib.hid (by rw [← hwd]; exact Blk.new _ _ _)
  clear hwd HXd y0 y1 y2 y3 y4 y5 zx zxn
  have HRf := Lib.hid ((HSt.out.refKeep HC4.out).below HBd.out)
  have hfw := HSt.out.tab.good.few
  have hrl := HSt.out.rel.len
  have hlv := liveN_le t.slots
  refine (rissueAt HRf.out (by omega) (by rw [HSt.out.rel.lastsLen]; omega) (x := xt) (key := xk) (ins := xn) (by rw [HSt.out.rel.may]; exact HMy.out) (by rw [HSt.out.rel.serial]; have := HSer.out; have := HM.out; omega) (by rw [HSt.out.rel.serial]; exact HSer.out.1) HFree.out HPos.out).mono ?_
  rintro e w5 ⟨rfl, ⟨S', hr5, hS5⟩, hc5⟩
  rw [HV.out]
  have HC5 := Lib.hid hc5
  have HR5 := Lib.hid hr5
  have HS5 := Lib.hid hS5
  have HGe := Lib.hid (HGd.out.keep hc5 (by have := HDl.out; have := HBc.out.size; omega))
  have z5 := hc5.size
  have zg := HGd.out.lt
  have HRow5 := Lib.hid (Kd.F_step (Kd.F_below (HSt.out.rowKeep HC4.out) HBd.out) (fun k hk _ => hc5.block k (by have := (HSt.out.u k hk).1; have := HBd.out.size; omega) (fun e => (HSt.out.u k hk).2 e)))
  clear hc5 hr5 hS5 HGd HRf hfw hrl hlv HV
  go_wp2_with fail
  refine gwP (fun wf hwf => ?_)
  have HBf : Hid (Below w5.heap.size w5 wf) := Lib.hid (by rw [← hwf]; exact (Below.refl _ _).alloc (Nat.le_refl _) _)
  have HHf : Hid (Blk wf w5.heap.size #[.int .i64 fi, .int .i64 gi, .int .i64 xt, .bool xn, .int .i64 ki, .int .i64 sd] 34) := Lib.hid (by rw [← hwf]; exact Blk.new _ _ _)
  have HGf := Lib.hid (HGe.out.below HBf.out)
  clear hwf HGe
  have HRowf := Lib.hid (Kd.F_below HRow5.out HBf.out)
  have hl3 : told.length ≤ 1000 := by have := HM.out; omega
  refine told_region (Y := w5.heap.size) (x := ⟨⟨fi, gi⟩, ⟨xt, xn, ki, sd⟩⟩) (told := told) (A := _) (c := c) (by rfl) (by rfl) (by rfl) HHf.out HRowf.out hl3 (fun u0 u1 u2 u3 u4 u5 v7 w7 hb7 hR7 => ?_)
  obtain ⟨A7, c7, rfl, hc7, hF7⟩ := told_row hR7
  have HB7 := Lib.hid hb7
  have HF7 := Lib.hid hF7
  have HC7 := Lib.hid hc7
  have HG7 := Lib.hid (HGf.out.below hb7)
  have HH7 := Lib.hid (HHf.out.below hb7)
  clear hb7 hR7 hl3 hc7 hF7
  have g0 := HG7.out.cell (j := 0) rfl
  have g1 := HG7.out.cell (j := 1) rfl
  have g2 := HG7.out.cell (j := 2) rfl
  have g3 := HG7.out.cell (j := 3) rfl
  have g4 := HG7.out.cell (j := 4) rfl
  have g5 := HG7.out.cell (j := 5) rfl
  have h0 := HH7.out.cell (j := 0) rfl
  have h1 := HH7.out.cell (j := 1) rfl
  have h2 := HH7.out.cell (j := 2) rfl
  have h3 := HH7.out.cell (j := 3) rfl
  have h4 := HH7.out.cell (j := 4) rfl
  have h5 := HH7.out.cell (j := 5) rfl
  simp only [Rg.fillA, Go.Act.put, List.setIfInBounds_toArray, List.set_cons_zero, List.set_cons_succ]
  go_wp2_with fail
  go_quiet (fail)
  go_wp2_with fail
  go_ret2
  obtain ⟨hd, hb⟩ := HSt.out.both (m' := m + 1) (O' := More O wc wd) (w2 := w5) (Or.inr rfl) (HC4.out.trans (Chg.of_below (S := fun _ => False) HBd.out) (fun _ _ h => h.elim)) ((HT4.out.wider (fun k hk => hk.imp id (fun h => ⟨h.1, Nat.lt_of_lt_of_le h.2 HBd.out.size⟩))).below HBd.out) HS5.out HC5.out HR5.out HRel.out (by omega) (by have := HFew.out; have := HGl.out; omega) (by have := HSer.out; show 0 ≤ t.serial + 1 ∧ t.serial + 1 ≤ ((m + 1 : Nat) : Int); omega)
  have ed : doT t told kind ⟨⟨yi, yg⟩, ⟨xt, xn, xk, xd⟩⟩ = (issueT t xt xn xk, told ++ [⟨⟨fi, gi⟩, ⟨xt, xn, ki, sd⟩⟩]) := by unfold doT; rw [if_pos HK.out, if_pos HMy.out]; show (issueT t xt xn xk, told ++ [(⟨⟨(freeI t : Int), lastI t + 1⟩, ⟨xt, xn, if xn then xk else 0, t.serial⟩⟩ : Listed)]) = _; rw [Hfi.out, Hgi.out, Hki.out, HSd.out]
  rw [ed]
  have hfin : ∀ wz, Below w7.heap.size w7 wz → Below w5.heap.size w5 wz := fun wz h => (HBf.out.trans (HB7.out.mono HBf.out.size)).trans (h.mono (Nat.le_trans HBf.out.size HB7.out.size))
  have hlm := HM.out
  have hd2 : ∀ wz, Below w7.heap.size w7 wz → Duo N (m + 1) wz _ _ _ B D _ _ A7 c7 (told ++ [⟨⟨fi, gi⟩, ⟨xt, xn, ki, sd⟩⟩]) := fun wz h => hd.turn (hfin wz h) (Kd.F_below HF7.out h) HC7.out (fun k hk => ⟨Nat.le_trans HBf.out.size hk.1, Nat.lt_of_lt_of_le hk.2 h.size⟩) (by simp; omega) (fun y hy => by
    rcases List.mem_append.1 hy with hy | hy
    · exact HSt0.out.fits y hy
    · obtain rfl := List.mem_singleton.1 hy
      have h1 := HFx.out
      have h2 := HKb.out
      have h3 := HSer.out
      have h4 := HSd.out
      exact ⟨h1.1, by rcases h2 with h2 | h2 <;> (simp only [h2]; first | exact h1.2.1 | (unfold In64; omega)), by unfold In64; simp only; omega⟩)
  exact ⟨_, _, _, _, _, _, rfl, hd2 _ (by repeat (first | exact Below.refl _ _ | refine bdn ?_ _)), (HBc.out.mono HSt0.out.n).trans (hb.trans ((hfin _ (by repeat (first | exact Below.refl _ _ | refine bdn ?_ _))).mono (by have := HSt.out.n; have := HBd.out.size; omega)))⟩
end Go.Proofs.Ytccfjjaljckinaa.Tag
/- One act on both tables: k2. No conditions. -/
namespace Go.Proofs.Ytccfjjaljckinaa.Tag
open Go.RowKit Go.Lib Go.Shelf Go.Proofs.Ytccfjjaljckinaa.Mem Go.Proofs.Ytccfjjaljckinaa.IMap Go.Proofs.YtccfjjaljckinaaW.PrintWords Go.Proofs.YtccfjjaljckinaaW.PrintLast Go.Proofs.YtccfjjaljckinaaW.PrintMore Go.Proofs.Ytccfjjaljckinaa.PTagActs
set_option linter.unusedVariables false
noncomputable def T19_19 : Bool × List (List Nat × List Nat) := rtab .any (opsOf Try.f19 19)
theorem tab19_19 : rtab .any (opsOf Try.f19 19) = T19_19 := rfl
theorem bits19_19 : waitsOk T19_19.2 [0, 0, 0, 6, 0, 0, 62, 126, 127, 511] = true := by kernel_rfl
set_option maxRecDepth 100000 in
set_option maxHeartbeats 8000000 in
theorem do_2a {N m : Nat} {w : World} {O S U : Nat → Prop} {B D : Nat} {t : Tab} {r : RTab} {A : Option Addr} {c : Nat} {told : List Listed} (h : Duo N m w O S U B D t r A c told) {kind place xi xg xt xk xd : Int} {xn : Bool} (hk : restI kind 4 = 2) (hx : In64O ⟨xt, xn, xk, xd⟩) (hm : m ≤ 1000) :
    Calls Try.prog 19 #[.pointer (some ⟨B, 0, none⟩), .pointer (some ⟨D, 0, none⟩), .slice A told.length c, .agg #[.int .i64 kind, .int .i64 place, .bool false, .int .i64 xi, .int .i64 xg, .int .i64 xt, .bool xn, .int .i64 xk, .int .i64 xd]] w fun e w' => ∃ O' S' U' r' A' c', e = .returned (.tuple #[.slice A' (doT t told kind ⟨⟨xi, xg⟩, ⟨xt, xn, xk, xd⟩⟩).2.length c', .bool true]) ∧
      Duo N (m + 1) w' O' S' U' B D (doT t told kind ⟨⟨xi, xg⟩, ⟨xt, xn, xk, xd⟩⟩).1 r' A' c' (doT t told kind ⟨⟨xi, xg⟩, ⟨xt, xn, xk, xd⟩⟩).2 ∧ Below N w w' := by
  have HSt0 := Lib.hid h
  have HK := Lib.hid hk
  have HM := Lib.hid hm
  have hlen := h.len
  have HOw : Hid (∀ k, O k → k < w.heap.size) := Lib.hid (fun k hk => (h.o k hk).2.1)
  have HDl : Hid (D < w.heap.size) := Lib.hid h.ref.lt
  have HFew := Lib.hid h.few
  have HSer := Lib.hid h.ser
  have HX0 := Lib.hid hx
  have hu36 := Try.underlying36
  have hu34 := Try.underlying34
  have hu32 := Try.underlying32
  have hu30 := Try.underlying30
  have hu28 := Try.underlying28
  have HFx := HX0
  clear h hk hx
  go_enter Try.func19, Try.ntmps19
  go_wp2_with fail
  refine gw (fun wb hwb => ?_)
  have HBw : Hid (Below w.heap.size w wb) := Lib.hid (by rw [← hwb]; exact ((Below.refl _ _).alloc (Nat.le_refl _) _).alloc (by simp) _)
  have HX : Hid (Blk wb (w.heap.size + 1) #[.int .i64 xi, .int .i64 xg, .int .i64 xt, .bool xn, .int .i64 xk, .int .i64 xd] 34) := Lib.hid (by rw [← hwb]; exact Blk.at_ (by simp) _ _)
  clear hwb
  refine (rest kind 4 (by decide) _).mono ?_
  rintro e wc0 ⟨rfl, q4, rfl⟩
  rw [HK.out]
  have HBc : Hid (Below w.heap.size w (wb.drewN q4)) := Lib.hid (bdn HBw.out q4)
  have HXc := Lib.hid (HX.out.drewN q4)
  generalize wb.drewN q4 = wc at *
  clear HBw HX
  have HSt := Lib.hid (HSt0.out.below HBc.out)
  have zc := HXc.out.lt
  go_wp2_with fail
  replace HSt := Lib.hid (HSt.out.below (Below.refl _ _).drew)
  replace HXc := Lib.hid HXc.out.drew
  replace HBc := Lib.hid HBc.out.drew
  have HEq := Lib.hid (HSt.out.rel.reviveE HSt.out.tab.good ⟨⟨xi, xg⟩, ⟨xt, xn, xk, xd⟩⟩)
  have HRel := Lib.hid (HSt.out.rel.revive HSt.out.tab.good ⟨⟨xi, xg⟩, ⟨xt, xn, xk, xd⟩⟩)
  obtain ⟨_, gr2, gr3⟩ := revive_grows t ⟨⟨xi, xg⟩, ⟨xt, xn, xk, xd⟩⟩
  have HG2 := Lib.hid gr2
  have HG3 := Lib.hid gr3
  clear gr2 gr3
  have hfw := HSt.out.tab.good.few
  have hrl := HSt.out.rel.len
  have hlv := liveN_le t.slots
  have HL : Hid (r.l.length ≤ 1000000) := Lib.hid (by omega)
  clear hfw hrl hlv
  refine start_ (n := 10) (S := fun w' => w'.cell? ⟨(w.heap.size + 1), 0, none⟩ = some (.int .i64 xi) ∧ w'.cell? ⟨(w.heap.size + 1), 1, none⟩ = some (.int .i64 xg) ∧ w'.cell? ⟨(w.heap.size + 1), 2, none⟩ = some (.int .i64 xt) ∧ w'.cell? ⟨(w.heap.size + 1), 3, none⟩ = some (.bool xn) ∧ w'.cell? ⟨(w.heap.size + 1), 4, none⟩ = some (.int .i64 xk) ∧ w'.cell? ⟨(w.heap.size + 1), 5, none⟩ = some (.int .i64 xd)) (ds := []) #[false, false, false, false, false, false, false, false, false, false] (by kernel_rfl) rfl rfl ⟨HXc.out.cell (j := 0) rfl, HXc.out.cell (j := 1) rfl, HXc.out.cell (j := 2) rfl, HXc.out.cell (j := 3) rfl, HXc.out.cell (j := 4) rfl, HXc.out.cell (j := 5) rfl⟩ (fun hHeld => ?_); refine with_tabW tab19_19 bits19_19 (fun HT_ HW_ => ?_)
  generalize wc.drew = wd at HSt HXc HBc hHeld ⊢
  refine pure_ (i := 0) (N := some 124) (v := ?_) (a' := ?_) #[true, false, false, false, false, false, false, false, false, false] rfl rfl (any_of HT_.out (by kernel_rfl)) (fun _ _ _ h => h) (Or.inl ⟨by rfl, ?_⟩) ?_ ?_
  rotate_left
  · intro w'
    go_simp
    with_reducible rfl
  rotate_left
  · simp only [Act.put, List.setIfInBounds_toArray, List.set_cons_zero, List.set_cons_succ]
    rfl
  refine pure_ (i := 1) (N := some 125) (v := ?_) (a' := ?_) #[true, true, false, false, false, false, false, false, false, false] rfl rfl (any_of HT_.out (by kernel_rfl)) (fun _ _ _ h => h) (Or.inl ⟨by rfl, ?_⟩) ?_ ?_
  rotate_left
  · intro w'
    go_simp
    with_reducible rfl
  rotate_left
  · simp only [Act.put, List.setIfInBounds_toArray, List.set_cons_zero, List.set_cons_succ]
    rfl
  refine pure_ (i := 4) (N := some 128) (v := ?_) (a' := ?_) #[true, true, false, false, true, false, false, false, false, false] rfl rfl (any_of HT_.out (by kernel_rfl)) (fun _ _ _ h => h) (Or.inl ⟨by rfl, ?_⟩) ?_ ?_
  rotate_left
  · intro w'
    go_simp
    with_reducible rfl
  rotate_left
  · simp only [Act.put, List.setIfInBounds_toArray, List.set_cons_zero, List.set_cons_succ]
    rfl
  refine take_ (i := 2) (N := some 126) (v := ?_) (a' := ?_) #[true, true, true, false, true, false, false, false, false, false] rfl rfl (take_ofW HT_.out HW_.out (by kernel_rfl)) (fun _ _ _ h => h) (Or.inl ⟨by rfl, ?_⟩) hHeld ?_ ?_
  rotate_left
  · rintro w' ⟨s0, s1, s2, s3, s4, s5⟩
    go_simp
    with_reducible rfl
  rotate_left
  · simp only [Act.put, List.setIfInBounds_toArray, List.set_cons_zero, List.set_cons_succ]
    rfl
  refine take_ (i := 5) (N := some 129) (v := ?_) (a' := ?_) #[true, true, true, false, true, true, false, false, false, false] rfl rfl (take_ofW HT_.out HW_.out (by kernel_rfl)) (fun _ _ _ h => h) (Or.inl ⟨by rfl, ?_⟩) hHeld ?_ ?_
  rotate_left
  · rintro w' ⟨s0, s1, s2, s3, s4, s5⟩
    go_simp
    with_reducible rfl
  rotate_left
  · simp only [Act.put, List.setIfInBounds_toArray, List.set_cons_zero, List.set_cons_succ]
    rfl
  refine one_ (i := 3) (N := some 127) #[true, true, true, true, true, true, false, false, false, false] rfl rfl (one_of HT_.out (by kernel_rfl)) (by decide) (fun K hK => ?_)
  refine goes_ Try.func13 (by kernel_rfl) rfl #[.pointer (some ⟨B, 0, none⟩), .agg #[.int .i64 xi, .int .i64 xg, .int .i64 xt, .bool xn, .int .i64 xk, .int .i64 xd]] (by rfl) rfl rfl (by (try simp only [List.map_toArray, List.map_cons, List.map_nil]); first | done | rfl) ?_
  refine (reviveAt HSt.out.tab ⟨⟨xi, xg⟩, ⟨xt, xn, xk, xd⟩⟩ HFx.out).mono ?_
  rintro e w4 ⟨rfl, ht4, hc4⟩
  refine ⟨_, rfl, ?_⟩
  have HX4 := Lib.hid (HXc.out.keep hc4 (fun ho => by have := HOw.out _ ho; omega))
  have HT4 := Lib.hid ht4
  have HC4 := Lib.hid hc4
  have HRf := Lib.hid (HSt.out.refKeep hc4)
  have z4 := hc4.size
  clear ht4 hc4
  refine hK.out _ _ ⟨HX4.out.cell (j := 0) rfl, HX4.out.cell (j := 1) rfl, HX4.out.cell (j := 2) rfl, HX4.out.cell (j := 3) rfl, HX4.out.cell (j := 4) rfl, HX4.out.cell (j := 5) rfl⟩ (fun hHeld => ?_)
  clear hK K
  refine norm_ (a' := ?_) ?_ ?_
  rotate_left
  · show Act.put _ (some 127) _ = _
    simp only [Act.put, List.setIfInBounds_toArray, List.set_cons_zero, List.set_cons_succ]
    rfl
  refine one_ (i := 6) (N := some 130) #[true, true, true, true, true, true, true, false, false, false] rfl rfl (one_of HT_.out (by kernel_rfl)) (by decide) (fun K hK => ?_)
  refine goes_ Try.func40 (by kernel_rfl) rfl #[.pointer (some ⟨D, 0, none⟩), .agg #[.int .i64 xi, .int .i64 xg, .int .i64 xt, .bool xn, .int .i64 xk, .int .i64 xd]] (by rfl) rfl rfl (by (try simp only [List.map_toArray, List.map_cons, List.map_nil]); first | done | rfl) ?_
  refine (rreviveAt' HRf.out HL.out ⟨⟨xi, xg⟩, ⟨xt, xn, xk, xd⟩⟩ HEq.out).mono ?_
  rintro e w5 ⟨rfl, ⟨S', hr5, hS5⟩, hc5⟩
  refine ⟨_, rfl, ?_⟩
  have HX5 := Lib.hid (HX4.out.keep hc5 (by have := HDl.out; omega))
  have HC5 := Lib.hid hc5
  have HR5 := Lib.hid hr5
  have HS5 := Lib.hid hS5
  clear hc5 hr5 hS5 HRf
  refine hK.out _ _ ⟨HX5.out.cell (j := 0) rfl, HX5.out.cell (j := 1) rfl, HX5.out.cell (j := 2) rfl, HX5.out.cell (j := 3) rfl, HX5.out.cell (j := 4) rfl, HX5.out.cell (j := 5) rfl⟩ (fun hHeld => ?_)
  clear hK K
  refine norm_ (a' := ?_) ?_ ?_
  rotate_left
  · show Act.put _ (some 130) _ = _
    simp only [Act.put, List.setIfInBounds_toArray, List.set_cons_zero, List.set_cons_succ]
    rfl
  refine pure_ (i := 7) (N := some 131) (v := ?_) (a' := ?_) #[true, true, true, true, true, true, true, true, false, false] rfl rfl (any_of HT_.out (by kernel_rfl)) (fun _ _ _ h => h) (Or.inl ⟨by rfl, ?_⟩) ?_ ?_
  rotate_left
  · intro w'
    go_simp
    with_reducible rfl
  rotate_left
  · simp only [Act.put, List.setIfInBounds_toArray, List.set_cons_zero, List.set_cons_succ]
    rfl
  refine pure_ (i := 8) (N := some 8) (v := ?_) (a' := ?_) #[true, true, true, true, true, true, true, true, true, false] rfl rfl (any_of HT_.out (by kernel_rfl)) (fun _ _ _ h => h) (Or.inl ⟨by rfl, ?_⟩) ?_ ?_
  rotate_left
  · intro w'
    go_simp
    with_reducible rfl
  rotate_left
  · simp only [Act.put, List.setIfInBounds_toArray, List.set_cons_zero, List.set_cons_succ]
    rfl
  refine pure_ (i := 9) (N := some 9) (v := ?_) (a' := ?_) #[true, true, true, true, true, true, true, true, true, true] rfl rfl (any_of HT_.out (by kernel_rfl)) (fun _ _ _ h => h) (Or.inl ⟨by rfl, ?_⟩) ?_ ?_
  rotate_left
  · intro w'
    go_simp
    with_reducible rfl
  rotate_left
  · simp only [Act.put, List.setIfInBounds_toArray, List.set_cons_zero, List.set_cons_succ]
    rfl
  refine done_ (done_of HT_.out (by kernel_rfl)) ?_
  clear hHeld HT_ HW_
  go_wp2_with fail
  go_ret2
  obtain ⟨hd, hb⟩ := HSt.out.both (m' := m + 1) (Or.inl rfl) HC4.out HT4.out HS5.out HC5.out HR5.out HRel.out (by omega) (by rw [HG3.out]; have := HFew.out; omega) (by rw [HG2.out]; have := HSer.out; omega)
  have ed : doT t told kind ⟨⟨xi, xg⟩, ⟨xt, xn, xk, xd⟩⟩ = (reviveT t ⟨⟨xi, xg⟩, ⟨xt, xn, xk, xd⟩⟩, told) := by unfold doT; rw [if_neg (by rw [HK.out]; decide), if_neg (by rw [HK.out]; decide), if_pos HK.out]
  rw [ed]
  exact ⟨_, _, _, _, _, _, rfl, hd, (HBc.out.mono HSt0.out.n).trans hb⟩

set_option maxRecDepth 100000 in
set_option maxHeartbeats 8000000 in
theorem do_2b {N m : Nat} {w : World} {O S U : Nat → Prop} {B D : Nat} {t : Tab} {r : RTab} {A : Option Addr} {c : Nat} {told : List Listed} (h : Duo N m w O S U B D t r A c told) {kind place xi xg xt xk xd : Int} {xn : Bool} (hk : restI kind 4 = 2) (h0 : told.length = 0) (hx : In64O ⟨xt, xn, xk, xd⟩) (hm : m ≤ 1000) :
    Calls Try.prog 19 #[.pointer (some ⟨B, 0, none⟩), .pointer (some ⟨D, 0, none⟩), .slice A told.length c, .agg #[.int .i64 kind, .int .i64 place, .bool true, .int .i64 xi, .int .i64 xg, .int .i64 xt, .bool xn, .int .i64 xk, .int .i64 xd]] w fun e w' => ∃ O' S' U' r' A' c', e = .returned (.tuple #[.slice A' (doT t told kind ⟨⟨xi, xg⟩, ⟨xt, xn, xk, xd⟩⟩).2.length c', .bool true]) ∧
      Duo N (m + 1) w' O' S' U' B D (doT t told kind ⟨⟨xi, xg⟩, ⟨xt, xn, xk, xd⟩⟩).1 r' A' c' (doT t told kind ⟨⟨xi, xg⟩, ⟨xt, xn, xk, xd⟩⟩).2 ∧ Below N w w' := by
  have HSt0 := Lib.hid h
  have HK := Lib.hid hk
  have HM := Lib.hid hm
  have hlen := h.len
  have HOw : Hid (∀ k, O k → k < w.heap.size) := Lib.hid (fun k hk => (h.o k hk).2.1)
  have HDl : Hid (D < w.heap.size) := Lib.hid h.ref.lt
  have HFew := Lib.hid h.few
  have HSer := Lib.hid h.ser
  have HX0 := Lib.hid hx
  have hu36 := Try.underlying36
  have hu34 := Try.underlying34
  have hu32 := Try.underlying32
  have hu30 := Try.underlying30
  have hu28 := Try.underlying28
  have HFx := HX0
  obtain rfl : told = [] := List.length_eq_zero_iff.1 h0
  clear h0
  clear h hk hx
  go_enter Try.func19, Try.ntmps19
  go_wp2_with fail
  refine gw (fun wb hwb => ?_)
  have HBw : Hid (Below w.heap.size w wb) := Lib.hid (by rw [← hwb]; exact ((Below.refl _ _).alloc (Nat.le_refl _) _).alloc (by simp) _)
  have HX : Hid (Blk wb (w.heap.size + 1) #[.int .i64 xi, .int .i64 xg, .int .i64 xt, .bool xn, .int .i64 xk, .int .i64 xd] 34) := Lib.hid (by rw [← hwb]; exact Blk.at_ (by simp) _ _)
  clear hwb
  refine (rest kind 4 (by decide) _).mono ?_
  rintro e wc0 ⟨rfl, q4, rfl⟩
  rw [HK.out]
  have HBc : Hid (Below w.heap.size w (wb.drewN q4)) := Lib.hid (bdn HBw.out q4)
  have HXc := Lib.hid (HX.out.drewN q4)
  generalize wb.drewN q4 = wc at *
  clear HBw HX
  have HSt := Lib.hid (HSt0.out.below HBc.out)
  have zc := HXc.out.lt
  go_wp2_with fail
  replace HSt := Lib.hid (HSt.out.below (Below.refl _ _).drew)
  replace HXc := Lib.hid HXc.out.drew
  replace HBc := Lib.hid HBc.out.drew
  have HEq := Lib.hid (HSt.out.rel.reviveE HSt.out.tab.good ⟨⟨xi, xg⟩, ⟨xt, xn, xk, xd⟩⟩)
  have HRel := Lib.hid (HSt.out.rel.revive HSt.out.tab.good ⟨⟨xi, xg⟩, ⟨xt, xn, xk, xd⟩⟩)
  obtain ⟨_, gr2, gr3⟩ := revive_grows t ⟨⟨xi, xg⟩, ⟨xt, xn, xk, xd⟩⟩
  have HG2 := Lib.hid gr2
  have HG3 := Lib.hid gr3
  clear gr2 gr3
  have hfw := HSt.out.tab.good.few
  have hrl := HSt.out.rel.len
  have hlv := liveN_le t.slots
  have HL : Hid (r.l.length ≤ 1000000) := Lib.hid (by omega)
  clear hfw hrl hlv
  refine start_ (n := 10) (S := fun w' => w'.cell? ⟨(w.heap.size + 1), 0, none⟩ = some (.int .i64 xi) ∧ w'.cell? ⟨(w.heap.size + 1), 1, none⟩ = some (.int .i64 xg) ∧ w'.cell? ⟨(w.heap.size + 1), 2, none⟩ = some (.int .i64 xt) ∧ w'.cell? ⟨(w.heap.size + 1), 3, none⟩ = some (.bool xn) ∧ w'.cell? ⟨(w.heap.size + 1), 4, none⟩ = some (.int .i64 xk) ∧ w'.cell? ⟨(w.heap.size + 1), 5, none⟩ = some (.int .i64 xd)) (ds := []) #[false, false, false, false, false, false, false, false, false, false] (by kernel_rfl) rfl rfl ⟨HXc.out.cell (j := 0) rfl, HXc.out.cell (j := 1) rfl, HXc.out.cell (j := 2) rfl, HXc.out.cell (j := 3) rfl, HXc.out.cell (j := 4) rfl, HXc.out.cell (j := 5) rfl⟩ (fun hHeld => ?_); refine with_tabW tab19_19 bits19_19 (fun HT_ HW_ => ?_)
  generalize wc.drew = wd at HSt HXc HBc hHeld ⊢
  refine pure_ (i := 0) (N := some 124) (v := ?_) (a' := ?_) #[true, false, false, false, false, false, false, false, false, false] rfl rfl (any_of HT_.out (by kernel_rfl)) (fun _ _ _ h => h) (Or.inl ⟨by rfl, ?_⟩) ?_ ?_
  rotate_left
  · intro w'
    go_simp
    with_reducible rfl
  rotate_left
  · simp only [Act.put, List.setIfInBounds_toArray, List.set_cons_zero, List.set_cons_succ]
    rfl
  refine pure_ (i := 1) (N := some 125) (v := ?_) (a' := ?_) #[true, true, false, false, false, false, false, false, false, false] rfl rfl (any_of HT_.out (by kernel_rfl)) (fun _ _ _ h => h) (Or.inl ⟨by rfl, ?_⟩) ?_ ?_
  rotate_left
  · intro w'
    go_simp
    with_reducible rfl
  rotate_left
  · simp only [Act.put, List.setIfInBounds_toArray, List.set_cons_zero, List.set_cons_succ]
    rfl
  refine pure_ (i := 4) (N := some 128) (v := ?_) (a' := ?_) #[true, true, false, false, true, false, false, false, false, false] rfl rfl (any_of HT_.out (by kernel_rfl)) (fun _ _ _ h => h) (Or.inl ⟨by rfl, ?_⟩) ?_ ?_
  rotate_left
  · intro w'
    go_simp
    with_reducible rfl
  rotate_left
  · simp only [Act.put, List.setIfInBounds_toArray, List.set_cons_zero, List.set_cons_succ]
    rfl
  refine take_ (i := 2) (N := some 126) (v := ?_) (a' := ?_) #[true, true, true, false, true, false, false, false, false, false] rfl rfl (take_ofW HT_.out HW_.out (by kernel_rfl)) (fun _ _ _ h => h) (Or.inl ⟨by rfl, ?_⟩) hHeld ?_ ?_
  rotate_left
  · rintro w' ⟨s0, s1, s2, s3, s4, s5⟩
    go_simp
    with_reducible rfl
  rotate_left
  · simp only [Act.put, List.setIfInBounds_toArray, List.set_cons_zero, List.set_cons_succ]
    rfl
  refine take_ (i := 5) (N := some 129) (v := ?_) (a' := ?_) #[true, true, true, false, true, true, false, false, false, false] rfl rfl (take_ofW HT_.out HW_.out (by kernel_rfl)) (fun _ _ _ h => h) (Or.inl ⟨by rfl, ?_⟩) hHeld ?_ ?_
  rotate_left
  · rintro w' ⟨s0, s1, s2, s3, s4, s5⟩
    go_simp
    with_reducible rfl
  rotate_left
  · simp only [Act.put, List.setIfInBounds_toArray, List.set_cons_zero, List.set_cons_succ]
    rfl
  refine one_ (i := 3) (N := some 127) #[true, true, true, true, true, true, false, false, false, false] rfl rfl (one_of HT_.out (by kernel_rfl)) (by decide) (fun K hK => ?_)
  refine goes_ Try.func13 (by kernel_rfl) rfl #[.pointer (some ⟨B, 0, none⟩), .agg #[.int .i64 xi, .int .i64 xg, .int .i64 xt, .bool xn, .int .i64 xk, .int .i64 xd]] (by rfl) rfl rfl (by (try simp only [List.map_toArray, List.map_cons, List.map_nil]); first | done | rfl) ?_
  refine (reviveAt HSt.out.tab ⟨⟨xi, xg⟩, ⟨xt, xn, xk, xd⟩⟩ HFx.out).mono ?_
  rintro e w4 ⟨rfl, ht4, hc4⟩
  refine ⟨_, rfl, ?_⟩
  have HX4 := Lib.hid (HXc.out.keep hc4 (fun ho => by have := HOw.out _ ho; omega))
  have HT4 := Lib.hid ht4
  have HC4 := Lib.hid hc4
  have HRf := Lib.hid (HSt.out.refKeep hc4)
  have z4 := hc4.size
  clear ht4 hc4
  refine hK.out _ _ ⟨HX4.out.cell (j := 0) rfl, HX4.out.cell (j := 1) rfl, HX4.out.cell (j := 2) rfl, HX4.out.cell (j := 3) rfl, HX4.out.cell (j := 4) rfl, HX4.out.cell (j := 5) rfl⟩ (fun hHeld => ?_)
  clear hK K
  refine norm_ (a' := ?_) ?_ ?_
  rotate_left
  · show Act.put _ (some 127) _ = _
    simp only [Act.put, List.setIfInBounds_toArray, List.set_cons_zero, List.set_cons_succ]
    rfl
  refine one_ (i := 6) (N := some 130) #[true, true, true, true, true, true, true, false, false, false] rfl rfl (one_of HT_.out (by kernel_rfl)) (by decide) (fun K hK => ?_)
  refine goes_ Try.func40 (by kernel_rfl) rfl #[.pointer (some ⟨D, 0, none⟩), .agg #[.int .i64 xi, .int .i64 xg, .int .i64 xt, .bool xn, .int .i64 xk, .int .i64 xd]] (by rfl) rfl rfl (by (try simp only [List.map_toArray, List.map_cons, List.map_nil]); first | done | rfl) ?_
  refine (rreviveAt' HRf.out HL.out ⟨⟨xi, xg⟩, ⟨xt, xn, xk, xd⟩⟩ HEq.out).mono ?_
  rintro e w5 ⟨rfl, ⟨S', hr5, hS5⟩, hc5⟩
  refine ⟨_, rfl, ?_⟩
  have HX5 := Lib.hid (HX4.out.keep hc5 (by have := HDl.out; omega))
  have HC5 := Lib.hid hc5
  have HR5 := Lib.hid hr5
  have HS5 := Lib.hid hS5
  clear hc5 hr5 hS5 HRf
  refine hK.out _ _ ⟨HX5.out.cell (j := 0) rfl, HX5.out.cell (j := 1) rfl, HX5.out.cell (j := 2) rfl, HX5.out.cell (j := 3) rfl, HX5.out.cell (j := 4) rfl, HX5.out.cell (j := 5) rfl⟩ (fun hHeld => ?_)
  clear hK K
  refine norm_ (a' := ?_) ?_ ?_
  rotate_left
  · show Act.put _ (some 130) _ = _
    simp only [Act.put, List.setIfInBounds_toArray, List.set_cons_zero, List.set_cons_succ]
    rfl
  refine pure_ (i := 7) (N := some 131) (v := ?_) (a' := ?_) #[true, true, true, true, true, true, true, true, false, false] rfl rfl (any_of HT_.out (by kernel_rfl)) (fun _ _ _ h => h) (Or.inl ⟨by rfl, ?_⟩) ?_ ?_
  rotate_left
  · intro w'
    go_simp
    with_reducible rfl
  rotate_left
  · simp only [Act.put, List.setIfInBounds_toArray, List.set_cons_zero, List.set_cons_succ]
    rfl
  refine pure_ (i := 8) (N := some 8) (v := ?_) (a' := ?_) #[true, true, true, true, true, true, true, true, true, false] rfl rfl (any_of HT_.out (by kernel_rfl)) (fun _ _ _ h => h) (Or.inl ⟨by rfl, ?_⟩) ?_ ?_
  rotate_left
  · intro w'
    go_simp
    with_reducible rfl
  rotate_left
  · simp only [Act.put, List.setIfInBounds_toArray, List.set_cons_zero, List.set_cons_succ]
    rfl
  refine pure_ (i := 9) (N := some 9) (v := ?_) (a' := ?_) #[true, true, true, true, true, true, true, true, true, true] rfl rfl (any_of HT_.out (by kernel_rfl)) (fun _ _ _ h => h) (Or.inl ⟨by rfl, ?_⟩) ?_ ?_
  rotate_left
  · intro w'
    go_simp
    with_reducible rfl
  rotate_left
  · simp only [Act.put, List.setIfInBounds_toArray, List.set_cons_zero, List.set_cons_succ]
    rfl
  refine done_ (done_of HT_.out (by kernel_rfl)) ?_
  clear hHeld HT_ HW_
  go_wp2_with fail
  go_ret2
  obtain ⟨hd, hb⟩ := HSt.out.both (m' := m + 1) (Or.inl rfl) HC4.out HT4.out HS5.out HC5.out HR5.out HRel.out (by omega) (by rw [HG3.out]; have := HFew.out; omega) (by rw [HG2.out]; have := HSer.out; omega)
  have ed : doT t [] kind ⟨⟨xi, xg⟩, ⟨xt, xn, xk, xd⟩⟩ = (reviveT t ⟨⟨xi, xg⟩, ⟨xt, xn, xk, xd⟩⟩, []) := by unfold doT; rw [if_neg (by rw [HK.out]; decide), if_neg (by rw [HK.out]; decide), if_pos HK.out]
  rw [ed]
  exact ⟨_, _, _, _, _, _, rfl, hd, (HBc.out.mono HSt0.out.n).trans hb⟩

set_option maxRecDepth 100000 in
set_option maxHeartbeats 8000000 in
theorem do_2d {N m : Nat} {w : World} {O S U : Nat → Prop} {B D : Nat} {t : Tab} {r : RTab} {A : Option Addr} {c : Nat} {told : List Listed} (h : Duo N m w O S U B D t r A c told) {kind place xi xg xt xk xd : Int} {xn : Bool} (hk : restI kind 4 = 2) {ix : Nat} {yi yg yt yk yd : Int} {yn : Bool} (hri : restI place told.length = ix) (hy : told[ix]? = some ⟨⟨yi, yg⟩, ⟨yt, yn, yk, yd⟩⟩) (hx : In64O ⟨xt, xn, xk, xd⟩) (hm : m ≤ 1000) :
    Calls Try.prog 19 #[.pointer (some ⟨B, 0, none⟩), .pointer (some ⟨D, 0, none⟩), .slice A told.length c, .agg #[.int .i64 kind, .int .i64 place, .bool true, .int .i64 xi, .int .i64 xg, .int .i64 xt, .bool xn, .int .i64 xk, .int .i64 xd]] w fun e w' => ∃ O' S' U' r' A' c', e = .returned (.tuple #[.slice A' (doT t told kind ⟨⟨yi, yg⟩, ⟨yt, yn, yk, yd⟩⟩).2.length c', .bool true]) ∧
      Duo N (m + 1) w' O' S' U' B D (doT t told kind ⟨⟨yi, yg⟩, ⟨yt, yn, yk, yd⟩⟩).1 r' A' c' (doT t told kind ⟨⟨yi, yg⟩, ⟨yt, yn, yk, yd⟩⟩).2 ∧ Below N w w' := by
  have HSt0 := Lib.hid h
  have HK := Lib.hid hk
  have HM := Lib.hid hm
  have hlen := h.len
  have HOw : Hid (∀ k, O k → k < w.heap.size) := Lib.hid (fun k hk => (h.o k hk).2.1)
  have HDl : Hid (D < w.heap.size) := Lib.hid h.ref.lt
  have HFew := Lib.hid h.few
  have HSer := Lib.hid h.ser
  have HX0 := Lib.hid hx
  have hu36 := Try.underlying36
  have hu34 := Try.underlying34
  have hu32 := Try.underlying32
  have hu30 := Try.underlying30
  have hu28 := Try.underlying28
  have HFx : Hid (In64O ⟨yt, yn, yk, yd⟩) := Lib.hid (h.fits _ (List.mem_of_getElem? hy))
  have hixl := (List.getElem?_eq_some_iff.1 hy).1
  clear h hk hx
  have tpos : decide ((told.length : Int) > 0) = true := decide_eq_true (by omega)
  go_enter Try.func19, Try.ntmps19
  go_wp2_with fail
  refine gw (fun wa hwa => ?_)
  have HBa : Hid (Below w.heap.size w wa) := Lib.hid (by rw [← hwa]; exact ((Below.refl _ _).alloc (Nat.le_refl _) _).alloc (by simp) _)
  have HAa : Hid (Blk wa w.heap.size #[.int .i64 kind, .int .i64 place, .bool true, .int .i64 xi, .int .i64 xg, .int .i64 xt, .bool xn, .int .i64 xk, .int .i64 xd] 36) := Lib.hid (by rw [← hwa]; exact (Blk.new _ _ _).alloc _)
  have HXa : Hid (Blk wa (w.heap.size + 1) #[.int .i64 xi, .int .i64 xg, .int .i64 xt, .bool xn, .int .i64 xk, .int .i64 xd] 34) := Lib.hid (by rw [← hwa]; exact Blk.at_ (by simp) _ _)
  clear hwa
  refine (rest place (told.length : Int) (by omega) _).mono ?_
  rintro e w3 ⟨rfl, q3, rfl⟩
  rw [hri]
  have HB3 : Hid (Below w.heap.size w (wa.drewN q3)) := Lib.hid (bdn HBa.out q3)
  have HA3 : Hid (Blk (wa.drewN q3) w.heap.size #[.int .i64 kind, .int .i64 place, .bool true, .int .i64 xi, .int .i64 xg, .int .i64 xt, .bool xn, .int .i64 xk, .int .i64 xd] 36) := Lib.hid (HAa.out.drewN q3)
  have HX3 : Hid (Blk (wa.drewN q3) (w.heap.size + 1) #[.int .i64 xi, .int .i64 xg, .int .i64 xt, .bool xn, .int .i64 xk, .int .i64 xd] 34) := Lib.hid (HXa.out.drewN q3)
  generalize wa.drewN q3 = w3 at *
  clear HBa HAa HXa
  obtain ⟨ad, hA, r0, r1, r2, r3, r4, r5⟩ := row_at (Kd.F_now (HSt0.out.below HB3.out).row) hy
  subst hA
  have hx3 := HX3.out.lt
  have ha3 := HA3.out.lt
  have hne3 : w.heap.size ≠ w3.heap.size := by omega
  have hne4 : w.heap.size + 1 ≠ w3.heap.size := by omega
  have hi30 : (0 : Int) ≤ ix := by omega
  have hi3N : (ix : Int) < told.length := by omega
  have e3 : (ix : Int).toNat = ix := by omega
  have g0 := HA3.out.cell (j := 0) rfl
  have y0 := HX3.out.cell (j := 0) rfl
  have y1 := HX3.out.cell (j := 1) rfl
  have y2 := HX3.out.cell (j := 2) rfl
  have y3 := HX3.out.cell (j := 3) rfl
  have y4 := HX3.out.cell (j := 4) rfl
  have y5 := HX3.out.cell (j := 5) rfl
  have yf0 := HX3.out.free 0
  have yf1 := HX3.out.free 1
  have yf2 := HX3.out.free 2
  have yf3 := HX3.out.free 3
  have yf4 := HX3.out.free 4
  have yf5 := HX3.out.free 5
  go_wp2_with fail
  refine gw (fun wb0 hwb => ?_)
  have HBw0 : Hid (Below w.heap.size w wb0) := Lib.hid (by rw [← hwb]; exact ((HB3.out.setCell (by simp) _).setCell (by simp) _).alloc (by have := HB3.out.size; simp; omega) _)
  have HX0 : Hid (Blk wb0 (w.heap.size + 1) #[.int .i64 yi, .int .i64 yg, .int .i64 xt, .bool xn, .int .i64 xk, .int .i64 xd] 34) := Lib.hid (by rw [← hwb]; exact ((HX3.out.set 0 _).set 1 _).alloc _)
  have HY0 : Hid (Blk wb0 w3.heap.size #[.int .i64 yi, .int .i64 yg, .int .i64 yt, .bool yn, .int .i64 yk, .int .i64 yd] 34) := Lib.hid (by rw [← hwb]; exact Blk.at_ (by simp) _ _)
  have HA0 : Hid (Blk wb0 w.heap.size #[.int .i64 kind, .int .i64 place, .bool true, .int .i64 xi, .int .i64 xg, .int .i64 xt, .bool xn, .int .i64 xk, .int .i64 xd] 36) := Lib.hid (by rw [← hwb]; exact ((HA3.out.far (p := ⟨w.heap.size + 1, 0, none⟩) (by simp) _).far (p := ⟨w.heap.size + 1, 1, none⟩) (by simp) _).alloc _)
  clear hwb HB3 HA3 r0 r1 r2 r3 r4 r5 g0 y0 y1 y2 y3 y4 y5 yf0 yf1 yf2 yf3 yf4 yf5 hi30 hi3N e3
  refine (rest kind 4 (by decide) _).mono ?_
  rintro e w5 ⟨rfl, q5, rfl⟩
  rw [HK.out]
  have HBw1 : Hid (Below w.heap.size w (wb0.drewN q5)) := Lib.hid (bdn HBw0.out q5)
  have HX1 := Lib.hid (HX0.out.drewN q5)
  have HY1 := Lib.hid (HY0.out.drewN q5)
  have HA1 := Lib.hid (HA0.out.drewN q5)
  generalize wb0.drewN q5 = wb1 at *
  clear HBw0 HX0 HY0 HA0
  have g0 := HA1.out.cell (j := 0) rfl
  have z0 := HY1.out.cell (j := 0) rfl
  have z1 := HY1.out.cell (j := 1) rfl
  have z2 := HY1.out.cell (j := 2) rfl
  have z3 := HY1.out.cell (j := 3) rfl
  have z4 := HY1.out.cell (j := 4) rfl
  have z5 := HY1.out.cell (j := 5) rfl
  have y0 := HX1.out.cell (j := 0) rfl
  have y1 := HX1.out.cell (j := 1) rfl
  have y2 := HX1.out.cell (j := 2) rfl
  have y3 := HX1.out.cell (j := 3) rfl
  have y4 := HX1.out.cell (j := 4) rfl
  have y5 := HX1.out.cell (j := 5) rfl
  have yf0 := HX1.out.free 0
  have yf1 := HX1.out.free 1
  have yf2 := HX1.out.free 2
  have yf3 := HX1.out.free 3
  have yf4 := HX1.out.free 4
  have yf5 := HX1.out.free 5
  have hx1 := HX1.out.lt
  go_wp2_with fail
  refine gw (fun wb hwb => ?_)
  have HBw : Hid (Below w.heap.size w wb) := Lib.hid (by rw [← hwb]; exact (((((HBw1.out.setCell (by simp) _).setCell (by simp) _).setCell (by simp) _).setCell (by simp) _).setCell (by simp) _).setCell (by simp) _)
  have HX : Hid (Blk wb (w.heap.size + 1) #[.int .i64 yi, .int .i64 yg, .int .i64 yt, .bool yn, .int .i64 yk, .int .i64 yd] 34) := Lib.hid (by rw [← hwb]; exact (((((HX1.out.set 0 _).set 1 _).set 2 _).set 3 _).set 4 _).set 5 _)
  clear hwb HBw1 HX1 HY1 HA1 g0 y0 y1 y2 y3 y4 y5 yf0 yf1 yf2 yf3 yf4 yf5 z0 z1 z2 z3 z4 z5 hx1
  refine (rest kind 4 (by decide) _).mono ?_
  rintro e wc0 ⟨rfl, q4, rfl⟩
  rw [HK.out]
  have HBc : Hid (Below w.heap.size w (wb.drewN q4)) := Lib.hid (bdn HBw.out q4)
  have HXc := Lib.hid (HX.out.drewN q4)
  generalize wb.drewN q4 = wc at *
  clear HBw HX
  have HSt := Lib.hid (HSt0.out.below HBc.out)
  have zc := HXc.out.lt
  go_wp2_with fail
  replace HSt := Lib.hid (HSt.out.below (Below.refl _ _).drew)
  replace HXc := Lib.hid HXc.out.drew
  replace HBc := Lib.hid HBc.out.drew
  have HEq := Lib.hid (HSt.out.rel.reviveE HSt.out.tab.good ⟨⟨yi, yg⟩, ⟨yt, yn, yk, yd⟩⟩)
  have HRel := Lib.hid (HSt.out.rel.revive HSt.out.tab.good ⟨⟨yi, yg⟩, ⟨yt, yn, yk, yd⟩⟩)
  obtain ⟨_, gr2, gr3⟩ := revive_grows t ⟨⟨yi, yg⟩, ⟨yt, yn, yk, yd⟩⟩
  have HG2 := Lib.hid gr2
  have HG3 := Lib.hid gr3
  clear gr2 gr3
  have hfw := HSt.out.tab.good.few
  have hrl := HSt.out.rel.len
  have hlv := liveN_le t.slots
  have HL : Hid (r.l.length ≤ 1000000) := Lib.hid (by omega)
  clear hfw hrl hlv
  refine start_ (n := 10) (S := fun w' => w'.cell? ⟨(w.heap.size + 1), 0, none⟩ = some (.int .i64 yi) ∧ w'.cell? ⟨(w.heap.size + 1), 1, none⟩ = some (.int .i64 yg) ∧ w'.cell? ⟨(w.heap.size + 1), 2, none⟩ = some (.int .i64 yt) ∧ w'.cell? ⟨(w.heap.size + 1), 3, none⟩ = some (.bool yn) ∧ w'.cell? ⟨(w.heap.size + 1), 4, none⟩ = some (.int .i64 yk) ∧ w'.cell? ⟨(w.heap.size + 1), 5, none⟩ = some (.int .i64 yd)) (ds := []) #[false, false, false, false, false, false, false, false, false, false] (by kernel_rfl) rfl rfl ⟨HXc.out.cell (j := 0) rfl, HXc.out.cell (j := 1) rfl, HXc.out.cell (j := 2) rfl, HXc.out.cell (j := 3) rfl, HXc.out.cell (j := 4) rfl, HXc.out.cell (j := 5) rfl⟩ (fun hHeld => ?_); refine with_tabW tab19_19 bits19_19 (fun HT_ HW_ => ?_)
  generalize wc.drew = wd at HSt HXc HBc hHeld ⊢
  refine pure_ (i := 0) (N := some 124) (v := ?_) (a' := ?_) #[true, false, false, false, false, false, false, false, false, false] rfl rfl (any_of HT_.out (by kernel_rfl)) (fun _ _ _ h => h) (Or.inl ⟨by rfl, ?_⟩) ?_ ?_
  rotate_left
  · intro w'
    go_simp
    with_reducible rfl
  rotate_left
  · simp only [Act.put, List.setIfInBounds_toArray, List.set_cons_zero, List.set_cons_succ]
    rfl
  refine pure_ (i := 1) (N := some 125) (v := ?_) (a' := ?_) #[true, true, false, false, false, false, false, false, false, false] rfl rfl (any_of HT_.out (by kernel_rfl)) (fun _ _ _ h => h) (Or.inl ⟨by rfl, ?_⟩) ?_ ?_
  rotate_left
  · intro w'
    go_simp
    with_reducible rfl
  rotate_left
  · simp only [Act.put, List.setIfInBounds_toArray, List.set_cons_zero, List.set_cons_succ]
    rfl
  refine pure_ (i := 4) (N := some 128) (v := ?_) (a' := ?_) #[true, true, false, false, true, false, false, false, false, false] rfl rfl (any_of HT_.out (by kernel_rfl)) (fun _ _ _ h => h) (Or.inl ⟨by rfl, ?_⟩) ?_ ?_
  rotate_left
  · intro w'
    go_simp
    with_reducible rfl
  rotate_left
  · simp only [Act.put, List.setIfInBounds_toArray, List.set_cons_zero, List.set_cons_succ]
    rfl
  refine take_ (i := 2) (N := some 126) (v := ?_) (a' := ?_) #[true, true, true, false, true, false, false, false, false, false] rfl rfl (take_ofW HT_.out HW_.out (by kernel_rfl)) (fun _ _ _ h => h) (Or.inl ⟨by rfl, ?_⟩) hHeld ?_ ?_
  rotate_left
  · rintro w' ⟨s0, s1, s2, s3, s4, s5⟩
    go_simp
    with_reducible rfl
  rotate_left
  · simp only [Act.put, List.setIfInBounds_toArray, List.set_cons_zero, List.set_cons_succ]
    rfl
  refine take_ (i := 5) (N := some 129) (v := ?_) (a' := ?_) #[true, true, true, false, true, true, false, false, false, false] rfl rfl (take_ofW HT_.out HW_.out (by kernel_rfl)) (fun _ _ _ h => h) (Or.inl ⟨by rfl, ?_⟩) hHeld ?_ ?_
  rotate_left
  · rintro w' ⟨s0, s1, s2, s3, s4, s5⟩
    go_simp
    with_reducible rfl
  rotate_left
  · simp only [Act.put, List.setIfInBounds_toArray, List.set_cons_zero, List.set_cons_succ]
    rfl
  refine one_ (i := 3) (N := some 127) #[true, true, true, true, true, true, false, false, false, false] rfl rfl (one_of HT_.out (by kernel_rfl)) (by decide) (fun K hK => ?_)
  refine goes_ Try.func13 (by kernel_rfl) rfl #[.pointer (some ⟨B, 0, none⟩), .agg #[.int .i64 yi, .int .i64 yg, .int .i64 yt, .bool yn, .int .i64 yk, .int .i64 yd]] (by rfl) rfl rfl (by (try simp only [List.map_toArray, List.map_cons, List.map_nil]); first | done | rfl) ?_
  refine (reviveAt HSt.out.tab ⟨⟨yi, yg⟩, ⟨yt, yn, yk, yd⟩⟩ HFx.out).mono ?_
  rintro e w4 ⟨rfl, ht4, hc4⟩
  refine ⟨_, rfl, ?_⟩
  have HX4 := Lib.hid (HXc.out.keep hc4 (fun ho => by have := HOw.out _ ho; omega))
  have HT4 := Lib.hid ht4
  have HC4 := Lib.hid hc4
  have HRf := Lib.hid (HSt.out.refKeep hc4)
  have z4 := hc4.size
  clear ht4 hc4
  refine hK.out _ _ ⟨HX4.out.cell (j := 0) rfl, HX4.out.cell (j := 1) rfl, HX4.out.cell (j := 2) rfl, HX4.out.cell (j := 3) rfl, HX4.out.cell (j := 4) rfl, HX4.out.cell (j := 5) rfl⟩ (fun hHeld => ?_)
  clear hK K
  refine norm_ (a' := ?_) ?_ ?_
  rotate_left
  · show Act.put _ (some 127) _ = _
    simp only [Act.put, List.setIfInBounds_toArray, List.set_cons_zero, List.set_cons_succ]
    rfl
  refine one_ (i := 6) (N := some 130) #[true, true, true, true, true, true, true, false, false, false] rfl rfl (one_of HT_.out (by kernel_rfl)) (by decide) (fun K hK => ?_)
  refine goes_ Try.func40 (by kernel_rfl) rfl #[.pointer (some ⟨D, 0, none⟩), .agg #[.int .i64 yi, .int .i64 yg, .int .i64 yt, .bool yn, .int .i64 yk, .int .i64 yd]] (by rfl) rfl rfl (by (try simp only [List.map_toArray, List.map_cons, List.map_nil]); first | done | rfl) ?_
  refine (rreviveAt' HRf.out HL.out ⟨⟨yi, yg⟩, ⟨yt, yn, yk, yd⟩⟩ HEq.out).mono ?_
  rintro e w5 ⟨rfl, ⟨S', hr5, hS5⟩, hc5⟩
  refine ⟨_, rfl, ?_⟩
  have HX5 := Lib.hid (HX4.out.keep hc5 (by have := HDl.out; omega))
  have HC5 := Lib.hid hc5
  have HR5 := Lib.hid hr5
  have HS5 := Lib.hid hS5
  clear hc5 hr5 hS5 HRf
  refine hK.out _ _ ⟨HX5.out.cell (j := 0) rfl, HX5.out.cell (j := 1) rfl, HX5.out.cell (j := 2) rfl, HX5.out.cell (j := 3) rfl, HX5.out.cell (j := 4) rfl, HX5.out.cell (j := 5) rfl⟩ (fun hHeld => ?_)
  clear hK K
  refine norm_ (a' := ?_) ?_ ?_
  rotate_left
  · show Act.put _ (some 130) _ = _
    simp only [Act.put, List.setIfInBounds_toArray, List.set_cons_zero, List.set_cons_succ]
    rfl
  refine pure_ (i := 7) (N := some 131) (v := ?_) (a' := ?_) #[true, true, true, true, true, true, true, true, false, false] rfl rfl (any_of HT_.out (by kernel_rfl)) (fun _ _ _ h => h) (Or.inl ⟨by rfl, ?_⟩) ?_ ?_
  rotate_left
  · intro w'
    go_simp
    with_reducible rfl
  rotate_left
  · simp only [Act.put, List.setIfInBounds_toArray, List.set_cons_zero, List.set_cons_succ]
    rfl
  refine pure_ (i := 8) (N := some 8) (v := ?_) (a' := ?_) #[true, true, true, true, true, true, true, true, true, false] rfl rfl (any_of HT_.out (by kernel_rfl)) (fun _ _ _ h => h) (Or.inl ⟨by rfl, ?_⟩) ?_ ?_
  rotate_left
  · intro w'
    go_simp
    with_reducible rfl
  rotate_left
  · simp only [Act.put, List.setIfInBounds_toArray, List.set_cons_zero, List.set_cons_succ]
    rfl
  refine pure_ (i := 9) (N := some 9) (v := ?_) (a' := ?_) #[true, true, true, true, true, true, true, true, true, true] rfl rfl (any_of HT_.out (by kernel_rfl)) (fun _ _ _ h => h) (Or.inl ⟨by rfl, ?_⟩) ?_ ?_
  rotate_left
  · intro w'
    go_simp
    with_reducible rfl
  rotate_left
  · simp only [Act.put, List.setIfInBounds_toArray, List.set_cons_zero, List.set_cons_succ]
    rfl
  refine done_ (done_of HT_.out (by kernel_rfl)) ?_
  clear hHeld HT_ HW_
  go_wp2_with fail
  go_ret2
  obtain ⟨hd, hb⟩ := HSt.out.both (m' := m + 1) (Or.inl rfl) HC4.out HT4.out HS5.out HC5.out HR5.out HRel.out (by omega) (by rw [HG3.out]; have := HFew.out; omega) (by rw [HG2.out]; have := HSer.out; omega)
  have ed : doT t told kind ⟨⟨yi, yg⟩, ⟨yt, yn, yk, yd⟩⟩ = (reviveT t ⟨⟨yi, yg⟩, ⟨yt, yn, yk, yd⟩⟩, told) := by unfold doT; rw [if_neg (by rw [HK.out]; decide), if_neg (by rw [HK.out]; decide), if_pos HK.out]
  rw [ed]
  exact ⟨_, _, _, _, _, _, rfl, hd, (HBc.out.mono HSt0.out.n).trans hb⟩
end Go.Proofs.Ytccfjjaljckinaa.Tag
/- One act on both tables: k3. No conditions. -/
namespace Go.Proofs.Ytccfjjaljckinaa.Tag
open Go.RowKit Go.Lib Go.Shelf Go.Proofs.Ytccfjjaljckinaa.Mem Go.Proofs.Ytccfjjaljckinaa.IMap Go.Proofs.YtccfjjaljckinaaW.PrintWords Go.Proofs.YtccfjjaljckinaaW.PrintLast Go.Proofs.YtccfjjaljckinaaW.PrintMore Go.Proofs.Ytccfjjaljckinaa.PTagActs
set_option linter.unusedVariables false
noncomputable def T19_20 : Bool × List (List Nat × List Nat) := rtab .any (opsOf Try.f19 20)
theorem tab19_20 : rtab .any (opsOf Try.f19 20) = T19_20 := rfl
theorem bits19_20 : waitsOk T19_20.2 [0, 0, 0, 4, 0, 16, 48, 126, 0, 0, 512, 0, 2048, 6144, 16382, 32766, 32767, 131071] = true := by kernel_rfl
set_option maxRecDepth 100000 in
set_option maxHeartbeats 8000000 in
theorem do_3a {N m : Nat} {w : World} {O S U : Nat → Prop} {B D : Nat} {t : Tab} {r : RTab} {A : Option Addr} {c : Nat} {told : List Listed} (h : Duo N m w O S U B D t r A c told) {kind place xi xg xt xk xd : Int} {xn : Bool} (hk : restI kind 4 = 3) (hx : In64O ⟨xt, xn, xk, xd⟩) (hm : m ≤ 1000) :
    Calls Try.prog 19 #[.pointer (some ⟨B, 0, none⟩), .pointer (some ⟨D, 0, none⟩), .slice A told.length c, .agg #[.int .i64 kind, .int .i64 place, .bool false, .int .i64 xi, .int .i64 xg, .int .i64 xt, .bool xn, .int .i64 xk, .int .i64 xd]] w fun e w' => ∃ O' S' U' r' A' c', e = .returned (.tuple #[.slice A' (doT t told kind ⟨⟨xi, xg⟩, ⟨xt, xn, xk, xd⟩⟩).2.length c', .bool true]) ∧
      Duo N (m + 1) w' O' S' U' B D (doT t told kind ⟨⟨xi, xg⟩, ⟨xt, xn, xk, xd⟩⟩).1 r' A' c' (doT t told kind ⟨⟨xi, xg⟩, ⟨xt, xn, xk, xd⟩⟩).2 ∧ Below N w w' := by
  have HSt0 := Lib.hid h
  have HK := Lib.hid hk
  have HM := Lib.hid hm
  have hlen := h.len
  have HOw : Hid (∀ k, O k → k < w.heap.size) := Lib.hid (fun k hk => (h.o k hk).2.1)
  have HDl : Hid (D < w.heap.size) := Lib.hid h.ref.lt
  have HFew := Lib.hid h.few
  have HSer := Lib.hid h.ser
  have HX0 := Lib.hid hx
  have hu36 := Try.underlying36
  have hu34 := Try.underlying34
  have hu32 := Try.underlying32
  have hu30 := Try.underlying30
  have hu28 := Try.underlying28
  have HFx := HX0
  clear h hk hx
  go_enter Try.func19, Try.ntmps19
  go_wp2_with fail
  refine gw (fun wb hwb => ?_)
  have HBw : Hid (Below w.heap.size w wb) := Lib.hid (by rw [← hwb]; exact ((Below.refl _ _).alloc (Nat.le_refl _) _).alloc (by simp) _)
  have HX : Hid (Blk wb (w.heap.size + 1) #[.int .i64 xi, .int .i64 xg, .int .i64 xt, .bool xn, .int .i64 xk, .int .i64 xd] 34) := Lib.hid (by rw [← hwb]; exact Blk.at_ (by simp) _ _)
  clear hwb
  refine (rest kind 4 (by decide) _).mono ?_
  rintro e wc0 ⟨rfl, q4, rfl⟩
  rw [HK.out]
  have HBc : Hid (Below w.heap.size w (wb.drewN q4)) := Lib.hid (bdn HBw.out q4)
  have HXc := Lib.hid (HX.out.drewN q4)
  generalize wb.drewN q4 = wc at *
  clear HBw HX
  have HSt := Lib.hid (HSt0.out.below HBc.out)
  have zc := HXc.out.lt
  go_wp2_with fail
  replace HSt := Lib.hid (HSt.out.below (Below.refl _ _).drew)
  replace HXc := Lib.hid HXc.out.drew
  replace HBc := Lib.hid HBc.out.drew
  have HEq := Lib.hid (HSt.out.rel.move ⟨xi, xg⟩ xt).1
  have HRel := Lib.hid (HSt.out.rel.move ⟨xi, xg⟩ xt).2
  obtain ⟨_, gr2, gr3⟩ := move_grows t ⟨xi, xg⟩ xt
  have HG2 := Lib.hid gr2
  have HG3 := Lib.hid gr3
  clear gr2 gr3
  have hfw := HSt.out.tab.good.few
  have hrl := HSt.out.rel.len
  have hlv := liveN_le t.slots
  have HL : Hid (r.l.length ≤ 1000000) := Lib.hid (by omega)
  clear hfw hrl hlv
  refine start_ (n := 18) (S := fun w' => w'.cell? ⟨(w.heap.size + 1), 0, none⟩ = some (.int .i64 xi) ∧ w'.cell? ⟨(w.heap.size + 1), 1, none⟩ = some (.int .i64 xg) ∧ w'.cell? ⟨(w.heap.size + 1), 2, none⟩ = some (.int .i64 xt) ∧ w'.cell? ⟨(w.heap.size + 1), 3, none⟩ = some (.bool xn) ∧ w'.cell? ⟨(w.heap.size + 1), 4, none⟩ = some (.int .i64 xk) ∧ w'.cell? ⟨(w.heap.size + 1), 5, none⟩ = some (.int .i64 xd)) (ds := []) #[false, false, false, false, false, false, false, false, false, false, false, false, false, false, false, false, false, false] (by kernel_rfl) rfl rfl ⟨HXc.out.cell (j := 0) rfl, HXc.out.cell (j := 1) rfl, HXc.out.cell (j := 2) rfl, HXc.out.cell (j := 3) rfl, HXc.out.cell (j := 4) rfl, HXc.out.cell (j := 5) rfl⟩ (fun hHeld => ?_); refine with_tabW tab19_20 bits19_20 (fun HT_ HW_ => ?_)
  generalize wc.drew = wd at HSt HXc HBc hHeld ⊢
  refine pure_ (i := 0) (N := some 132) (v := ?_) (a' := ?_) #[true, false, false, false, false, false, false, false, false, false, false, false, false, false, false, false, false, false] rfl rfl (any_of HT_.out (by kernel_rfl)) (fun _ _ _ h => h) (Or.inl ⟨by rfl, ?_⟩) ?_ ?_
  rotate_left
  · intro w'
    go_simp
    with_reducible rfl
  rotate_left
  · simp only [Act.put, List.setIfInBounds_toArray, List.set_cons_zero, List.set_cons_succ]
    rfl
  refine pure_ (i := 1) (N := some 133) (v := ?_) (a' := ?_) #[true, true, false, false, false, false, false, false, false, false, false, false, false, false, false, false, false, false] rfl rfl (any_of HT_.out (by kernel_rfl)) (fun _ _ _ h => h) (Or.inl ⟨by rfl, ?_⟩) ?_ ?_
  rotate_left
  · intro w'
    go_simp
    with_reducible rfl
  rotate_left
  · simp only [Act.put, List.setIfInBounds_toArray, List.set_cons_zero, List.set_cons_succ]
    rfl
  refine pure_ (i := 2) (N := some 134) (v := ?_) (a' := ?_) #[true, true, true, false, false, false, false, false, false, false, false, false, false, false, false, false, false, false] rfl rfl (any_of HT_.out (by kernel_rfl)) (fun _ _ _ h => h) (Or.inl ⟨by rfl, ?_⟩) ?_ ?_
  rotate_left
  · intro w'
    go_simp
    with_reducible rfl
  rotate_left
  · simp only [Act.put, List.setIfInBounds_toArray, List.set_cons_zero, List.set_cons_succ]
    rfl
  refine pure_ (i := 4) (N := some 136) (v := ?_) (a' := ?_) #[true, true, true, false, true, false, false, false, false, false, false, false, false, false, false, false, false, false] rfl rfl (any_of HT_.out (by kernel_rfl)) (fun _ _ _ h => h) (Or.inl ⟨by rfl, ?_⟩) ?_ ?_
  rotate_left
  · intro w'
    go_simp
    with_reducible rfl
  rotate_left
  · simp only [Act.put, List.setIfInBounds_toArray, List.set_cons_zero, List.set_cons_succ]
    rfl
  refine pure_ (i := 5) (N := some 137) (v := ?_) (a' := ?_) #[true, true, true, false, true, true, false, false, false, false, false, false, false, false, false, false, false, false] rfl rfl (any_of HT_.out (by kernel_rfl)) (fun _ _ _ h => h) (Or.inl ⟨by rfl, ?_⟩) ?_ ?_
  rotate_left
  · intro w'
    go_simp
    with_reducible rfl
  rotate_left
  · simp only [Act.put, List.setIfInBounds_toArray, List.set_cons_zero, List.set_cons_succ]
    rfl
  refine pure_ (i := 8) (N := some 140) (v := ?_) (a' := ?_) #[true, true, true, false, true, true, false, false, true, false, false, false, false, false, false, false, false, false] rfl rfl (any_of HT_.out (by kernel_rfl)) (fun _ _ _ h => h) (Or.inl ⟨by rfl, ?_⟩) ?_ ?_
  rotate_left
  · intro w'
    go_simp
    with_reducible rfl
  rotate_left
  · simp only [Act.put, List.setIfInBounds_toArray, List.set_cons_zero, List.set_cons_succ]
    rfl
  refine pure_ (i := 9) (N := some 141) (v := ?_) (a' := ?_) #[true, true, true, false, true, true, false, false, true, true, false, false, false, false, false, false, false, false] rfl rfl (any_of HT_.out (by kernel_rfl)) (fun _ _ _ h => h) (Or.inl ⟨by rfl, ?_⟩) ?_ ?_
  rotate_left
  · intro w'
    go_simp
    with_reducible rfl
  rotate_left
  · simp only [Act.put, List.setIfInBounds_toArray, List.set_cons_zero, List.set_cons_succ]
    rfl
  refine pure_ (i := 11) (N := some 143) (v := ?_) (a' := ?_) #[true, true, true, false, true, true, false, false, true, true, false, true, false, false, false, false, false, false] rfl rfl (any_of HT_.out (by kernel_rfl)) (fun _ _ _ h => h) (Or.inl ⟨by rfl, ?_⟩) ?_ ?_
  rotate_left
  · intro w'
    go_simp
    with_reducible rfl
  rotate_left
  · simp only [Act.put, List.setIfInBounds_toArray, List.set_cons_zero, List.set_cons_succ]
    rfl
  refine pure_ (i := 12) (N := some 144) (v := ?_) (a' := ?_) #[true, true, true, false, true, true, false, false, true, true, false, true, true, false, false, false, false, false] rfl rfl (any_of HT_.out (by kernel_rfl)) (fun _ _ _ h => h) (Or.inl ⟨by rfl, ?_⟩) ?_ ?_
  rotate_left
  · intro w'
    go_simp
    with_reducible rfl
  rotate_left
  · simp only [Act.put, List.setIfInBounds_toArray, List.set_cons_zero, List.set_cons_succ]
    rfl
  refine take_ (i := 3) (N := some 135) (v := ?_) (a' := ?_) #[true, true, true, true, true, true, false, false, true, true, false, true, true, false, false, false, false, false] rfl rfl (take_ofW HT_.out HW_.out (by kernel_rfl)) (fun _ _ _ h => h) (Or.inl ⟨by rfl, ?_⟩) hHeld ?_ ?_
  rotate_left
  · rintro w' ⟨s0, s1, s2, s3, s4, s5⟩
    go_simp
    with_reducible rfl
  rotate_left
  · simp only [Act.put, List.setIfInBounds_toArray, List.set_cons_zero, List.set_cons_succ]
    rfl
  refine take_ (i := 6) (N := some 138) (v := ?_) (a' := ?_) #[true, true, true, true, true, true, true, false, true, true, false, true, true, false, false, false, false, false] rfl rfl (take_ofW HT_.out HW_.out (by kernel_rfl)) (fun _ _ _ h => h) (Or.inl ⟨by rfl, ?_⟩) hHeld ?_ ?_
  rotate_left
  · rintro w' ⟨s0, s1, s2, s3, s4, s5⟩
    go_simp
    with_reducible rfl
  rotate_left
  · simp only [Act.put, List.setIfInBounds_toArray, List.set_cons_zero, List.set_cons_succ]
    rfl
  refine take_ (i := 10) (N := some 142) (v := ?_) (a' := ?_) #[true, true, true, true, true, true, true, false, true, true, true, true, true, false, false, false, false, false] rfl rfl (take_ofW HT_.out HW_.out (by kernel_rfl)) (fun _ _ _ h => h) (Or.inl ⟨by rfl, ?_⟩) hHeld ?_ ?_
  rotate_left
  · rintro w' ⟨s0, s1, s2, s3, s4, s5⟩
    go_simp
    with_reducible rfl
  rotate_left
  · simp only [Act.put, List.setIfInBounds_toArray, List.set_cons_zero, List.set_cons_succ]
    rfl
  refine take_ (i := 13) (N := some 145) (v := ?_) (a' := ?_) #[true, true, true, true, true, true, true, false, true, true, true, true, true, true, false, false, false, false] rfl rfl (take_ofW HT_.out HW_.out (by kernel_rfl)) (fun _ _ _ h => h) (Or.inl ⟨by rfl, ?_⟩) hHeld ?_ ?_
  rotate_left
  · rintro w' ⟨s0, s1, s2, s3, s4, s5⟩
    go_simp
    with_reducible rfl
  rotate_left
  · simp only [Act.put, List.setIfInBounds_toArray, List.set_cons_zero, List.set_cons_succ]
    rfl
  refine one_ (i := 7) (N := some 139) #[true, true, true, true, true, true, true, true, true, true, true, true, true, true, false, false, false, false] rfl rfl (one_of HT_.out (by kernel_rfl)) (by decide) (fun K hK => ?_)
  refine goes_ Try.func14 (by kernel_rfl) rfl #[.pointer (some ⟨B, 0, none⟩), .agg #[.int .i64 xi, .int .i64 xg], .int .i64 xt] (by rfl) rfl rfl (by (try simp only [List.map_toArray, List.map_cons, List.map_nil]); first | done | rfl) ?_
  refine (moveAt HSt.out.tab ⟨xi, xg⟩ (x := xt) HFx.out.1).mono ?_
  rintro e w4 ⟨rfl, ht4, hc4⟩
  refine ⟨_, rfl, ?_⟩
  have HX4 := Lib.hid (HXc.out.keep hc4 (fun ho => by have := HOw.out _ ho; omega))
  have HT4 := Lib.hid ht4
  have HC4 := Lib.hid hc4
  have HRf := Lib.hid (HSt.out.refKeep hc4)
  have z4 := hc4.size
  clear ht4 hc4
  refine hK.out _ _ ⟨HX4.out.cell (j := 0) rfl, HX4.out.cell (j := 1) rfl, HX4.out.cell (j := 2) rfl, HX4.out.cell (j := 3) rfl, HX4.out.cell (j := 4) rfl, HX4.out.cell (j := 5) rfl⟩ (fun hHeld => ?_)
  clear hK K
  refine norm_ (a' := ?_) ?_ ?_
  rotate_left
  · show Act.put _ (some 139) _ = _
    simp only [Act.put, List.setIfInBounds_toArray, List.set_cons_zero, List.set_cons_succ]
    rfl
  refine one_ (i := 14) (N := some 146) #[true, true, true, true, true, true, true, true, true, true, true, true, true, true, true, false, false, false] rfl rfl (one_of HT_.out (by kernel_rfl)) (by decide) (fun K hK => ?_)
  refine goes_ Try.func41 (by kernel_rfl) rfl #[.pointer (some ⟨D, 0, none⟩), .agg #[.int .i64 xi, .int .i64 xg], .int .i64 xt] (by rfl) rfl rfl (by (try simp only [List.map_toArray, List.map_cons, List.map_nil]); first | done | rfl) ?_
  refine (rmoveAt' HRf.out HL.out ⟨xi, xg⟩ xt HEq.out).mono ?_
  rintro e w5 ⟨rfl, ⟨S', hr5, hS5⟩, hc5⟩
  refine ⟨_, rfl, ?_⟩
  have HX5 := Lib.hid (HX4.out.keep hc5 (by have := HDl.out; omega))
  have HC5 := Lib.hid hc5
  have HR5 := Lib.hid hr5
  have HS5 := Lib.hid hS5
  clear hc5 hr5 hS5 HRf
  refine hK.out _ _ ⟨HX5.out.cell (j := 0) rfl, HX5.out.cell (j := 1) rfl, HX5.out.cell (j := 2) rfl, HX5.out.cell (j := 3) rfl, HX5.out.cell (j := 4) rfl, HX5.out.cell (j := 5) rfl⟩ (fun hHeld => ?_)
  clear hK K
  refine norm_ (a' := ?_) ?_ ?_
  rotate_left
  · show Act.put _ (some 146) _ = _
    simp only [Act.put, List.setIfInBounds_toArray, List.set_cons_zero, List.set_cons_succ]
    rfl
  refine pure_ (i := 15) (N := some 147) (v := ?_) (a' := ?_) #[true, true, true, true, true, true, true, true, true, true, true, true, true, true, true, true, false, false] rfl rfl (any_of HT_.out (by kernel_rfl)) (fun _ _ _ h => h) (Or.inl ⟨by rfl, ?_⟩) ?_ ?_
  rotate_left
  · intro w'
    go_simp
    with_reducible rfl
  rotate_left
  · simp only [Act.put, List.setIfInBounds_toArray, List.set_cons_zero, List.set_cons_succ]
    rfl
  refine pure_ (i := 16) (N := some 8) (v := ?_) (a' := ?_) #[true, true, true, true, true, true, true, true, true, true, true, true, true, true, true, true, true, false] rfl rfl (any_of HT_.out (by kernel_rfl)) (fun _ _ _ h => h) (Or.inl ⟨by rfl, ?_⟩) ?_ ?_
  rotate_left
  · intro w'
    go_simp
    with_reducible rfl
  rotate_left
  · simp only [Act.put, List.setIfInBounds_toArray, List.set_cons_zero, List.set_cons_succ]
    rfl
  refine pure_ (i := 17) (N := some 9) (v := ?_) (a' := ?_) #[true, true, true, true, true, true, true, true, true, true, true, true, true, true, true, true, true, true] rfl rfl (any_of HT_.out (by kernel_rfl)) (fun _ _ _ h => h) (Or.inl ⟨by rfl, ?_⟩) ?_ ?_
  rotate_left
  · intro w'
    go_simp
    with_reducible rfl
  rotate_left
  · simp only [Act.put, List.setIfInBounds_toArray, List.set_cons_zero, List.set_cons_succ]
    rfl
  refine done_ (done_of HT_.out (by kernel_rfl)) ?_
  clear hHeld HT_ HW_
  go_wp2_with fail
  go_ret2
  obtain ⟨hd, hb⟩ := HSt.out.both (m' := m + 1) (Or.inl rfl) HC4.out HT4.out HS5.out HC5.out HR5.out HRel.out (by omega) (by rw [HG3.out]; have := HFew.out; omega) (by rw [HG2.out]; have := HSer.out; omega)
  have ed : doT t told kind ⟨⟨xi, xg⟩, ⟨xt, xn, xk, xd⟩⟩ = ((moveR t ⟨xi, xg⟩ xt).2, told) := by unfold doT; rw [if_neg (by rw [HK.out]; decide), if_neg (by rw [HK.out]; decide), if_neg (by rw [HK.out]; decide)]
  rw [ed]
  exact ⟨_, _, _, _, _, _, rfl, hd, (HBc.out.mono HSt0.out.n).trans hb⟩

set_option maxRecDepth 100000 in
set_option maxHeartbeats 8000000 in
theorem do_3b {N m : Nat} {w : World} {O S U : Nat → Prop} {B D : Nat} {t : Tab} {r : RTab} {A : Option Addr} {c : Nat} {told : List Listed} (h : Duo N m w O S U B D t r A c told) {kind place xi xg xt xk xd : Int} {xn : Bool} (hk : restI kind 4 = 3) (h0 : told.length = 0) (hx : In64O ⟨xt, xn, xk, xd⟩) (hm : m ≤ 1000) :
    Calls Try.prog 19 #[.pointer (some ⟨B, 0, none⟩), .pointer (some ⟨D, 0, none⟩), .slice A told.length c, .agg #[.int .i64 kind, .int .i64 place, .bool true, .int .i64 xi, .int .i64 xg, .int .i64 xt, .bool xn, .int .i64 xk, .int .i64 xd]] w fun e w' => ∃ O' S' U' r' A' c', e = .returned (.tuple #[.slice A' (doT t told kind ⟨⟨xi, xg⟩, ⟨xt, xn, xk, xd⟩⟩).2.length c', .bool true]) ∧
      Duo N (m + 1) w' O' S' U' B D (doT t told kind ⟨⟨xi, xg⟩, ⟨xt, xn, xk, xd⟩⟩).1 r' A' c' (doT t told kind ⟨⟨xi, xg⟩, ⟨xt, xn, xk, xd⟩⟩).2 ∧ Below N w w' := by
  have HSt0 := Lib.hid h
  have HK := Lib.hid hk
  have HM := Lib.hid hm
  have hlen := h.len
  have HOw : Hid (∀ k, O k → k < w.heap.size) := Lib.hid (fun k hk => (h.o k hk).2.1)
  have HDl : Hid (D < w.heap.size) := Lib.hid h.ref.lt
  have HFew := Lib.hid h.few
  have HSer := Lib.hid h.ser
  have HX0 := Lib.hid hx
  have hu36 := Try.underlying36
  have hu34 := Try.underlying34
  have hu32 := Try.underlying32
  have hu30 := Try.underlying30
  have hu28 := Try.underlying28
  have HFx := HX0
  obtain rfl : told = [] := List.length_eq_zero_iff.1 h0
  clear h0
  clear h hk hx
  go_enter Try.func19, Try.ntmps19
  go_wp2_with fail
  refine gw (fun wb hwb => ?_)
  have HBw : Hid (Below w.heap.size w wb) := Lib.hid (by rw [← hwb]; exact ((Below.refl _ _).alloc (Nat.le_refl _) _).alloc (by simp) _)
  have HX : Hid (Blk wb (w.heap.size + 1) #[.int .i64 xi, .int .i64 xg, .int .i64 xt, .bool xn, .int .i64 xk, .int .i64 xd] 34) := Lib.hid (by rw [← hwb]; exact Blk.at_ (by simp) _ _)
  clear hwb
  refine (rest kind 4 (by decide) _).mono ?_
  rintro e wc0 ⟨rfl, q4, rfl⟩
  rw [HK.out]
  have HBc : Hid (Below w.heap.size w (wb.drewN q4)) := Lib.hid (bdn HBw.out q4)
  have HXc := Lib.hid (HX.out.drewN q4)
  generalize wb.drewN q4 = wc at *
  clear HBw HX
  have HSt := Lib.hid (HSt0.out.below HBc.out)
  have zc := HXc.out.lt
  go_wp2_with fail
  replace HSt := Lib.hid (HSt.out.below (Below.refl _ _).drew)
  replace HXc := Lib.hid HXc.out.drew
  replace HBc := Lib.hid HBc.out.drew
  have HEq := Lib.hid (HSt.out.rel.move ⟨xi, xg⟩ xt).1
  have HRel := Lib.hid (HSt.out.rel.move ⟨xi, xg⟩ xt).2
  obtain ⟨_, gr2, gr3⟩ := move_grows t ⟨xi, xg⟩ xt
  have HG2 := Lib.hid gr2
  have HG3 := Lib.hid gr3
  clear gr2 gr3
  have hfw := HSt.out.tab.good.few
  have hrl := HSt.out.rel.len
  have hlv := liveN_le t.slots
  have HL : Hid (r.l.length ≤ 1000000) := Lib.hid (by omega)
  clear hfw hrl hlv
  refine start_ (n := 18) (S := fun w' => w'.cell? ⟨(w.heap.size + 1), 0, none⟩ = some (.int .i64 xi) ∧ w'.cell? ⟨(w.heap.size + 1), 1, none⟩ = some (.int .i64 xg) ∧ w'.cell? ⟨(w.heap.size + 1), 2, none⟩ = some (.int .i64 xt) ∧ w'.cell? ⟨(w.heap.size + 1), 3, none⟩ = some (.bool xn) ∧ w'.cell? ⟨(w.heap.size + 1), 4, none⟩ = some (.int .i64 xk) ∧ w'.cell? ⟨(w.heap.size + 1), 5, none⟩ = some (.int .i64 xd)) (ds := []) #[false, false, false, false, false, false, false, false, false, false, false, false, false, false, false, false, false, false] (by kernel_rfl) rfl rfl ⟨HXc.out.cell (j := 0) rfl, HXc.out.cell (j := 1) rfl, HXc.out.cell (j := 2) rfl, HXc.out.cell (j := 3) rfl, HXc.out.cell (j := 4) rfl, HXc.out.cell (j := 5) rfl⟩ (fun hHeld => ?_); refine with_tabW tab19_20 bits19_20 (fun HT_ HW_ => ?_)
  generalize wc.drew = wd at HSt HXc HBc hHeld ⊢
  refine pure_ (i := 0) (N := some 132) (v := ?_) (a' := ?_) #[true, false, false, false, false, false, false, false, false, false, false, false, false, false, false, false, false, false] rfl rfl (any_of HT_.out (by kernel_rfl)) (fun _ _ _ h => h) (Or.inl ⟨by rfl, ?_⟩) ?_ ?_
  rotate_left
  · intro w'
    go_simp
    with_reducible rfl
  rotate_left
  · simp only [Act.put, List.setIfInBounds_toArray, List.set_cons_zero, List.set_cons_succ]
    rfl
  refine pure_ (i := 1) (N := some 133) (v := ?_) (a' := ?_) #[true, true, false, false, false, false, false, false, false, false, false, false, false, false, false, false, false, false] rfl rfl (any_of HT_.out (by kernel_rfl)) (fun _ _ _ h => h) (Or.inl ⟨by rfl, ?_⟩) ?_ ?_
  rotate_left
  · intro w'
    go_simp
    with_reducible rfl
  rotate_left
  · simp only [Act.put, List.setIfInBounds_toArray, List.set_cons_zero, List.set_cons_succ]
    rfl
  refine pure_ (i := 2) (N := some 134) (v := ?_) (a' := ?_) #[true, true, true, false, false, false, false, false, false, false, false, false, false, false, false, false, false, false] rfl rfl (any_of HT_.out (by kernel_rfl)) (fun _ _ _ h => h) (Or.inl ⟨by rfl, ?_⟩) ?_ ?_
  rotate_left
  · intro w'
    go_simp
    with_reducible rfl
  rotate_left
  · simp only [Act.put, List.setIfInBounds_toArray, List.set_cons_zero, List.set_cons_succ]
    rfl
  refine pure_ (i := 4) (N := some 136) (v := ?_) (a' := ?_) #[true, true, true, false, true, false, false, false, false, false, false, false, false, false, false, false, false, false] rfl rfl (any_of HT_.out (by kernel_rfl)) (fun _ _ _ h => h) (Or.inl ⟨by rfl, ?_⟩) ?_ ?_
  rotate_left
  · intro w'
    go_simp
    with_reducible rfl
  rotate_left
  · simp only [Act.put, List.setIfInBounds_toArray, List.set_cons_zero, List.set_cons_succ]
    rfl
  refine pure_ (i := 5) (N := some 137) (v := ?_) (a' := ?_) #[true, true, true, false, true, true, false, false, false, false, false, false, false, false, false, false, false, false] rfl rfl (any_of HT_.out (by kernel_rfl)) (fun _ _ _ h => h) (Or.inl ⟨by rfl, ?_⟩) ?_ ?_
  rotate_left
  · intro w'
    go_simp
    with_reducible rfl
  rotate_left
  · simp only [Act.put, List.setIfInBounds_toArray, List.set_cons_zero, List.set_cons_succ]
    rfl
  refine pure_ (i := 8) (N := some 140) (v := ?_) (a' := ?_) #[true, true, true, false, true, true, false, false, true, false, false, false, false, false, false, false, false, false] rfl rfl (any_of HT_.out (by kernel_rfl)) (fun _ _ _ h => h) (Or.inl ⟨by rfl, ?_⟩) ?_ ?_
  rotate_left
  · intro w'
    go_simp
    with_reducible rfl
  rotate_left
  · simp only [Act.put, List.setIfInBounds_toArray, List.set_cons_zero, List.set_cons_succ]
    rfl
  refine pure_ (i := 9) (N := some 141) (v := ?_) (a' := ?_) #[true, true, true, false, true, true, false, false, true, true, false, false, false, false, false, false, false, false] rfl rfl (any_of HT_.out (by kernel_rfl)) (fun _ _ _ h => h) (Or.inl ⟨by rfl, ?_⟩) ?_ ?_
  rotate_left
  · intro w'
    go_simp
    with_reducible rfl
  rotate_left
  · simp only [Act.put, List.setIfInBounds_toArray, List.set_cons_zero, List.set_cons_succ]
    rfl
  refine pure_ (i := 11) (N := some 143) (v := ?_) (a' := ?_) #[true, true, true, false, true, true, false, false, true, true, false, true, false, false, false, false, false, false] rfl rfl (any_of HT_.out (by kernel_rfl)) (fun _ _ _ h => h) (Or.inl ⟨by rfl, ?_⟩) ?_ ?_
  rotate_left
  · intro w'
    go_simp
    with_reducible rfl
  rotate_left
  · simp only [Act.put, List.setIfInBounds_toArray, List.set_cons_zero, List.set_cons_succ]
    rfl
  refine pure_ (i := 12) (N := some 144) (v := ?_) (a' := ?_) #[true, true, true, false, true, true, false, false, true, true, false, true, true, false, false, false, false, false] rfl rfl (any_of HT_.out (by kernel_rfl)) (fun _ _ _ h => h) (Or.inl ⟨by rfl, ?_⟩) ?_ ?_
  rotate_left
  · intro w'
    go_simp
    with_reducible rfl
  rotate_left
  · simp only [Act.put, List.setIfInBounds_toArray, List.set_cons_zero, List.set_cons_succ]
    rfl
  refine take_ (i := 3) (N := some 135) (v := ?_) (a' := ?_) #[true, true, true, true, true, true, false, false, true, true, false, true, true, false, false, false, false, false] rfl rfl (take_ofW HT_.out HW_.out (by kernel_rfl)) (fun _ _ _ h => h) (Or.inl ⟨by rfl, ?_⟩) hHeld ?_ ?_
  rotate_left
  · rintro w' ⟨s0, s1, s2, s3, s4, s5⟩
    go_simp
    with_reducible rfl
  rotate_left
  · simp only [Act.put, List.setIfInBounds_toArray, List.set_cons_zero, List.set_cons_succ]
    rfl
  refine take_ (i := 6) (N := some 138) (v := ?_) (a' := ?_) #[true, true, true, true, true, true, true, false, true, true, false, true, true, false, false, false, false, false] rfl rfl (take_ofW HT_.out HW_.out (by kernel_rfl)) (fun _ _ _ h => h) (Or.inl ⟨by rfl, ?_⟩) hHeld ?_ ?_
  rotate_left
  · rintro w' ⟨s0, s1, s2, s3, s4, s5⟩
    go_simp
    with_reducible rfl
  rotate_left
  · simp only [Act.put, List.setIfInBounds_toArray, List.set_cons_zero, List.set_cons_succ]
    rfl
  refine take_ (i := 10) (N := some 142) (v := ?_) (a' := ?_) #[true, true, true, true, true, true, true, false, true, true, true, true, true, false, false, false, false, false] rfl rfl (take_ofW HT_.out HW_.out (by kernel_rfl)) (fun _ _ _ h => h) (Or.inl ⟨by rfl, ?_⟩) hHeld ?_ ?_
  rotate_left
  · rintro w' ⟨s0, s1, s2, s3, s4, s5⟩
    go_simp
    with_reducible rfl
  rotate_left
  · simp only [Act.put, List.setIfInBounds_toArray, List.set_cons_zero, List.set_cons_succ]
    rfl
  refine take_ (i := 13) (N := some 145) (v := ?_) (a' := ?_) #[true, true, true, true, true, true, true, false, true, true, true, true, true, true, false, false, false, false] rfl rfl (take_ofW HT_.out HW_.out (by kernel_rfl)) (fun _ _ _ h => h) (Or.inl ⟨by rfl, ?_⟩) hHeld ?_ ?_
  rotate_left
  · rintro w' ⟨s0, s1, s2, s3, s4, s5⟩
    go_simp
    with_reducible rfl
  rotate_left
  · simp only [Act.put, List.setIfInBounds_toArray, List.set_cons_zero, List.set_cons_succ]
    rfl
  refine one_ (i := 7) (N := some 139) #[true, true, true, true, true, true, true, true, true, true, true, true, true, true, false, false, false, false] rfl rfl (one_of HT_.out (by kernel_rfl)) (by decide) (fun K hK => ?_)
  refine goes_ Try.func14 (by kernel_rfl) rfl #[.pointer (some ⟨B, 0, none⟩), .agg #[.int .i64 xi, .int .i64 xg], .int .i64 xt] (by rfl) rfl rfl (by (try simp only [List.map_toArray, List.map_cons, List.map_nil]); first | done | rfl) ?_
  refine (moveAt HSt.out.tab ⟨xi, xg⟩ (x := xt) HFx.out.1).mono ?_
  rintro e w4 ⟨rfl, ht4, hc4⟩
  refine ⟨_, rfl, ?_⟩
  have HX4 := Lib.hid (HXc.out.keep hc4 (fun ho => by have := HOw.out _ ho; omega))
  have HT4 := Lib.hid ht4
  have HC4 := Lib.hid hc4
  have HRf := Lib.hid (HSt.out.refKeep hc4)
  have z4 := hc4.size
  clear ht4 hc4
  refine hK.out _ _ ⟨HX4.out.cell (j := 0) rfl, HX4.out.cell (j := 1) rfl, HX4.out.cell (j := 2) rfl, HX4.out.cell (j := 3) rfl, HX4.out.cell (j := 4) rfl, HX4.out.cell (j := 5) rfl⟩ (fun hHeld => ?_)
  clear hK K
  refine norm_ (a' := ?_) ?_ ?_
  rotate_left
  · show Act.put _ (some 139) _ = _
    simp only [Act.put, List.setIfInBounds_toArray, List.set_cons_zero, List.set_cons_succ]
    rfl
  refine one_ (i := 14) (N := some 146) #[true, true, true, true, true, true, true, true, true, true, true, true, true, true, true, false, false, false] rfl rfl (one_of HT_.out (by kernel_rfl)) (by decide) (fun K hK => ?_)
  refine goes_ Try.func41 (by kernel_rfl) rfl #[.pointer (some ⟨D, 0, none⟩), .agg #[.int .i64 xi, .int .i64 xg], .int .i64 xt] (by rfl) rfl rfl (by (try simp only [List.map_toArray, List.map_cons, List.map_nil]); first | done | rfl) ?_
  refine (rmoveAt' HRf.out HL.out ⟨xi, xg⟩ xt HEq.out).mono ?_
  rintro e w5 ⟨rfl, ⟨S', hr5, hS5⟩, hc5⟩
  refine ⟨_, rfl, ?_⟩
  have HX5 := Lib.hid (HX4.out.keep hc5 (by have := HDl.out; omega))
  have HC5 := Lib.hid hc5
  have HR5 := Lib.hid hr5
  have HS5 := Lib.hid hS5
  clear hc5 hr5 hS5 HRf
  refine hK.out _ _ ⟨HX5.out.cell (j := 0) rfl, HX5.out.cell (j := 1) rfl, HX5.out.cell (j := 2) rfl, HX5.out.cell (j := 3) rfl, HX5.out.cell (j := 4) rfl, HX5.out.cell (j := 5) rfl⟩ (fun hHeld => ?_)
  clear hK K
  refine norm_ (a' := ?_) ?_ ?_
  rotate_left
  · show Act.put _ (some 146) _ = _
    simp only [Act.put, List.setIfInBounds_toArray, List.set_cons_zero, List.set_cons_succ]
    rfl
  refine pure_ (i := 15) (N := some 147) (v := ?_) (a' := ?_) #[true, true, true, true, true, true, true, true, true, true, true, true, true, true, true, true, false, false] rfl rfl (any_of HT_.out (by kernel_rfl)) (fun _ _ _ h => h) (Or.inl ⟨by rfl, ?_⟩) ?_ ?_
  rotate_left
  · intro w'
    go_simp
    with_reducible rfl
  rotate_left
  · simp only [Act.put, List.setIfInBounds_toArray, List.set_cons_zero, List.set_cons_succ]
    rfl
  refine pure_ (i := 16) (N := some 8) (v := ?_) (a' := ?_) #[true, true, true, true, true, true, true, true, true, true, true, true, true, true, true, true, true, false] rfl rfl (any_of HT_.out (by kernel_rfl)) (fun _ _ _ h => h) (Or.inl ⟨by rfl, ?_⟩) ?_ ?_
  rotate_left
  · intro w'
    go_simp
    with_reducible rfl
  rotate_left
  · simp only [Act.put, List.setIfInBounds_toArray, List.set_cons_zero, List.set_cons_succ]
    rfl
  refine pure_ (i := 17) (N := some 9) (v := ?_) (a' := ?_) #[true, true, true, true, true, true, true, true, true, true, true, true, true, true, true, true, true, true] rfl rfl (any_of HT_.out (by kernel_rfl)) (fun _ _ _ h => h) (Or.inl ⟨by rfl, ?_⟩) ?_ ?_
  rotate_left
  · intro w'
    go_simp
    with_reducible rfl
  rotate_left
  · simp only [Act.put, List.setIfInBounds_toArray, List.set_cons_zero, List.set_cons_succ]
    rfl
  refine done_ (done_of HT_.out (by kernel_rfl)) ?_
  clear hHeld HT_ HW_
  go_wp2_with fail
  go_ret2
  obtain ⟨hd, hb⟩ := HSt.out.both (m' := m + 1) (Or.inl rfl) HC4.out HT4.out HS5.out HC5.out HR5.out HRel.out (by omega) (by rw [HG3.out]; have := HFew.out; omega) (by rw [HG2.out]; have := HSer.out; omega)
  have ed : doT t [] kind ⟨⟨xi, xg⟩, ⟨xt, xn, xk, xd⟩⟩ = ((moveR t ⟨xi, xg⟩ xt).2, []) := by unfold doT; rw [if_neg (by rw [HK.out]; decide), if_neg (by rw [HK.out]; decide), if_neg (by rw [HK.out]; decide)]
  rw [ed]
  exact ⟨_, _, _, _, _, _, rfl, hd, (HBc.out.mono HSt0.out.n).trans hb⟩

set_option maxRecDepth 100000 in
set_option maxHeartbeats 8000000 in
theorem do_3c {N m : Nat} {w : World} {O S U : Nat → Prop} {B D : Nat} {t : Tab} {r : RTab} {A : Option Addr} {c : Nat} {told : List Listed} (h : Duo N m w O S U B D t r A c told) {kind place xi xg xt xk xd : Int} {xn : Bool} (hk : restI kind 4 = 3) {ix : Nat} {yi yg yt yk yd : Int} {yn : Bool} (hri : restI place told.length = ix) (hy : told[ix]? = some ⟨⟨yi, yg⟩, ⟨yt, yn, yk, yd⟩⟩) (hx : In64O ⟨xt, xn, xk, xd⟩) (hm : m ≤ 1000) :
    Calls Try.prog 19 #[.pointer (some ⟨B, 0, none⟩), .pointer (some ⟨D, 0, none⟩), .slice A told.length c, .agg #[.int .i64 kind, .int .i64 place, .bool true, .int .i64 xi, .int .i64 xg, .int .i64 xt, .bool xn, .int .i64 xk, .int .i64 xd]] w fun e w' => ∃ O' S' U' r' A' c', e = .returned (.tuple #[.slice A' (doT t told kind ⟨⟨yi, yg⟩, ⟨xt, xn, xk, xd⟩⟩).2.length c', .bool true]) ∧
      Duo N (m + 1) w' O' S' U' B D (doT t told kind ⟨⟨yi, yg⟩, ⟨xt, xn, xk, xd⟩⟩).1 r' A' c' (doT t told kind ⟨⟨yi, yg⟩, ⟨xt, xn, xk, xd⟩⟩).2 ∧ Below N w w' := by
  have HSt0 := Lib.hid h
  have HK := Lib.hid hk
  have HM := Lib.hid hm
  have hlen := h.len
  have HOw : Hid (∀ k, O k → k < w.heap.size) := Lib.hid (fun k hk => (h.o k hk).2.1)
  have HDl : Hid (D < w.heap.size) := Lib.hid h.ref.lt
  have HFew := Lib.hid h.few
  have HSer := Lib.hid h.ser
  have HX0 := Lib.hid hx
  have hu36 := Try.underlying36
  have hu34 := Try.underlying34
  have hu32 := Try.underlying32
  have hu30 := Try.underlying30
  have hu28 := Try.underlying28
  have HFx : Hid (In64O ⟨xt, xn, xk, xd⟩) := HX0
  have hixl := (List.getElem?_eq_some_iff.1 hy).1
  clear h hk hx
  have tpos : decide ((told.length : Int) > 0) = true := decide_eq_true (by omega)
  go_enter Try.func19, Try.ntmps19
  go_wp2_with fail
  refine gw (fun wa hwa => ?_)
  have HBa : Hid (Below w.heap.size w wa) := Lib.hid (by rw [← hwa]; exact ((Below.refl _ _).alloc (Nat.le_refl _) _).alloc (by simp) _)
  have HAa : Hid (Blk wa w.heap.size #[.int .i64 kind, .int .i64 place, .bool true, .int .i64 xi, .int .i64 xg, .int .i64 xt, .bool xn, .int .i64 xk, .int .i64 xd] 36) := Lib.hid (by rw [← hwa]; exact (Blk.new _ _ _).alloc _)
  have HXa : Hid (Blk wa (w.heap.size + 1) #[.int .i64 xi, .int .i64 xg, .int .i64 xt, .bool xn, .int .i64 xk, .int .i64 xd] 34) := Lib.hid (by rw [← hwa]; exact Blk.at_ (by simp) _ _)
  clear hwa
  refine (rest place (told.length : Int) (by omega) _).mono ?_
  rintro e w3 ⟨rfl, q3, rfl⟩
  rw [hri]
  have HB3 : Hid (Below w.heap.size w (wa.drewN q3)) := Lib.hid (bdn HBa.out q3)
  have HA3 : Hid (Blk (wa.drewN q3) w.heap.size #[.int .i64 kind, .int .i64 place, .bool true, .int .i64 xi, .int .i64 xg, .int .i64 xt, .bool xn, .int .i64 xk, .int .i64 xd] 36) := Lib.hid (HAa.out.drewN q3)
  have HX3 : Hid (Blk (wa.drewN q3) (w.heap.size + 1) #[.int .i64 xi, .int .i64 xg, .int .i64 xt, .bool xn, .int .i64 xk, .int .i64 xd] 34) := Lib.hid (HXa.out.drewN q3)
  generalize wa.drewN q3 = w3 at *
  clear HBa HAa HXa
  obtain ⟨ad, hA, r0, r1, r2, r3, r4, r5⟩ := row_at (Kd.F_now (HSt0.out.below HB3.out).row) hy
  subst hA
  have hx3 := HX3.out.lt
  have ha3 := HA3.out.lt
  have hne3 : w.heap.size ≠ w3.heap.size := by omega
  have hne4 : w.heap.size + 1 ≠ w3.heap.size := by omega
  have hi30 : (0 : Int) ≤ ix := by omega
  have hi3N : (ix : Int) < told.length := by omega
  have e3 : (ix : Int).toNat = ix := by omega
  have g0 := HA3.out.cell (j := 0) rfl
  have y0 := HX3.out.cell (j := 0) rfl
  have y1 := HX3.out.cell (j := 1) rfl
  have y2 := HX3.out.cell (j := 2) rfl
  have y3 := HX3.out.cell (j := 3) rfl
  have y4 := HX3.out.cell (j := 4) rfl
  have y5 := HX3.out.cell (j := 5) rfl
  have yf0 := HX3.out.free 0
  have yf1 := HX3.out.free 1
  have yf2 := HX3.out.free 2
  have yf3 := HX3.out.free 3
  have yf4 := HX3.out.free 4
  have yf5 := HX3.out.free 5
  go_wp2_with fail
  refine gw (fun wb0 hwb => ?_)
  have HBw0 : Hid (Below w.heap.size w wb0) := Lib.hid (by rw [← hwb]; exact ((HB3.out.setCell (by simp) _).setCell (by simp) _).alloc (by have := HB3.out.size; simp; omega) _)
  have HX0 : Hid (Blk wb0 (w.heap.size + 1) #[.int .i64 yi, .int .i64 yg, .int .i64 xt, .bool xn, .int .i64 xk, .int .i64 xd] 34) := Lib.hid (by rw [← hwb]; exact ((HX3.out.set 0 _).set 1 _).alloc _)
  have HY0 : Hid (Blk wb0 w3.heap.size #[.int .i64 yi, .int .i64 yg, .int .i64 yt, .bool yn, .int .i64 yk, .int .i64 yd] 34) := Lib.hid (by rw [← hwb]; exact Blk.at_ (by simp) _ _)
  have HA0 : Hid (Blk wb0 w.heap.size #[.int .i64 kind, .int .i64 place, .bool true, .int .i64 xi, .int .i64 xg, .int .i64 xt, .bool xn, .int .i64 xk, .int .i64 xd] 36) := Lib.hid (by rw [← hwb]; exact ((HA3.out.far (p := ⟨w.heap.size + 1, 0, none⟩) (by simp) _).far (p := ⟨w.heap.size + 1, 1, none⟩) (by simp) _).alloc _)
  clear hwb HB3 HA3 r0 r1 r2 r3 r4 r5 g0 y0 y1 y2 y3 y4 y5 yf0 yf1 yf2 yf3 yf4 yf5 hi30 hi3N e3
  refine (rest kind 4 (by decide) _).mono ?_
  rintro e w5 ⟨rfl, q5, rfl⟩
  rw [HK.out]
  have HBw1 : Hid (Below w.heap.size w (wb0.drewN q5)) := Lib.hid (bdn HBw0.out q5)
  have HX1 := Lib.hid (HX0.out.drewN q5)
  have HY1 := Lib.hid (HY0.out.drewN q5)
  have HA1 := Lib.hid (HA0.out.drewN q5)
  generalize wb0.drewN q5 = wb1 at *
  clear HBw0 HX0 HY0 HA0
  have g0 := HA1.out.cell (j := 0) rfl
  go_wp2_with fail
  have HBw := HBw1
  have HX := HX1
  clear HBw1 HX1 HY1 HA1 g0
  generalize wb1 = wb at *
  refine (rest kind 4 (by decide) _).mono ?_
  rintro e wc0 ⟨rfl, q4, rfl⟩
  rw [HK.out]
  have HBc : Hid (Below w.heap.size w (wb.drewN q4)) := Lib.hid (bdn HBw.out q4)
  have HXc := Lib.hid (HX.out.drewN q4)
  generalize wb.drewN q4 = wc at *
  clear HBw HX
  have HSt := Lib.hid (HSt0.out.below HBc.out)
  have zc := HXc.out.lt
  go_wp2_with fail
  replace HSt := Lib.hid (HSt.out.below (Below.refl _ _).drew)
  replace HXc := Lib.hid HXc.out.drew
  replace HBc := Lib.hid HBc.out.drew
  have HEq := Lib.hid (HSt.out.rel.move ⟨yi, yg⟩ xt).1
  have HRel := Lib.hid (HSt.out.rel.move ⟨yi, yg⟩ xt).2
  obtain ⟨_, gr2, gr3⟩ := move_grows t ⟨yi, yg⟩ xt
  have HG2 := Lib.hid gr2
  have HG3 := Lib.hid gr3
  clear gr2 gr3
  have hfw := HSt.out.tab.good.few
  have hrl := HSt.out.rel.len
  have hlv := liveN_le t.slots
  have HL : Hid (r.l.length ≤ 1000000) := Lib.hid (by omega)
  clear hfw hrl hlv
  refine start_ (n := 18) (S := fun w' => w'.cell? ⟨(w.heap.size + 1), 0, none⟩ = some (.int .i64 yi) ∧ w'.cell? ⟨(w.heap.size + 1), 1, none⟩ = some (.int .i64 yg) ∧ w'.cell? ⟨(w.heap.size + 1), 2, none⟩ = some (.int .i64 xt) ∧ w'.cell? ⟨(w.heap.size + 1), 3, none⟩ = some (.bool xn) ∧ w'.cell? ⟨(w.heap.size + 1), 4, none⟩ = some (.int .i64 xk) ∧ w'.cell? ⟨(w.heap.size + 1), 5, none⟩ = some (.int .i64 xd)) (ds := []) #[false, false, false, false, false, false, false, false, false, false, false, false, false, false, false, false, false, false] (by kernel_rfl) rfl rfl ⟨HXc.out.cell (j := 0) rfl, HXc.out.cell (j := 1) rfl, HXc.out.cell (j := 2) rfl, HXc.out.cell (j := 3) rfl, HXc.out.cell (j := 4) rfl, HXc.out.cell (j := 5) rfl⟩ (fun hHeld => ?_); refine with_tabW tab19_20 bits19_20 (fun HT_ HW_ => ?_)
  generalize wc.drew = wd at HSt HXc HBc hHeld ⊢
  refine pure_ (i := 0) (N := some 132) (v := ?_) (a' := ?_) #[true, false, false, false, false, false, false, false, false, false, false, false, false, false, false, false, false, false] rfl rfl (any_of HT_.out (by kernel_rfl)) (fun _ _ _ h => h) (Or.inl ⟨by rfl, ?_⟩) ?_ ?_
  rotate_left
  · intro w'
    go_simp
    with_reducible rfl
  rotate_left
  · simp only [Act.put, List.setIfInBounds_toArray, List.set_cons_zero, List.set_cons_succ]
    rfl
  refine pure_ (i := 1) (N := some 133) (v := ?_) (a' := ?_) #[true, true, false, false, false, false, false, false, false, false, false, false, false, false, false, false, false, false] rfl rfl (any_of HT_.out (by kernel_rfl)) (fun _ _ _ h => h) (Or.inl ⟨by rfl, ?_⟩) ?_ ?_
  rotate_left
  · intro w'
    go_simp
    with_reducible rfl
  rotate_left
  · simp only [Act.put, List.setIfInBounds_toArray, List.set_cons_zero, List.set_cons_succ]
    rfl
  refine pure_ (i := 2) (N := some 134) (v := ?_) (a' := ?_) #[true, true, true, false, false, false, false, false, false, false, false, false, false, false, false, false, false, false] rfl rfl (any_of HT_.out (by kernel_rfl)) (fun _ _ _ h => h) (Or.inl ⟨by rfl, ?_⟩) ?_ ?_
  rotate_left
  · intro w'
    go_simp
    with_reducible rfl
  rotate_left
  · simp only [Act.put, List.setIfInBounds_toArray, List.set_cons_zero, List.set_cons_succ]
    rfl
  refine pure_ (i := 4) (N := some 136) (v := ?_) (a' := ?_) #[true, true, true, false, true, false, false, false, false, false, false, false, false, false, false, false, false, false] rfl rfl (any_of HT_.out (by kernel_rfl)) (fun _ _ _ h => h) (Or.inl ⟨by rfl, ?_⟩) ?_ ?_
  rotate_left
  · intro w'
    go_simp
    with_reducible rfl
  rotate_left
  · simp only [Act.put, List.setIfInBounds_toArray, List.set_cons_zero, List.set_cons_succ]
    rfl
  refine pure_ (i := 5) (N := some 137) (v := ?_) (a' := ?_) #[true, true, true, false, true, true, false, false, false, false, false, false, false, false, false, false, false, false] rfl rfl (any_of HT_.out (by kernel_rfl)) (fun _ _ _ h => h) (Or.inl ⟨by rfl, ?_⟩) ?_ ?_
  rotate_left
  · intro w'
    go_simp
    with_reducible rfl
  rotate_left
  · simp only [Act.put, List.setIfInBounds_toArray, List.set_cons_zero, List.set_cons_succ]
    rfl
  refine pure_ (i := 8) (N := some 140) (v := ?_) (a' := ?_) #[true, true, true, false, true, true, false, false, true, false, false, false, false, false, false, false, false, false] rfl rfl (any_of HT_.out (by kernel_rfl)) (fun _ _ _ h => h) (Or.inl ⟨by rfl, ?_⟩) ?_ ?_
  rotate_left
  · intro w'
    go_simp
    with_reducible rfl
  rotate_left
  · simp only [Act.put, List.setIfInBounds_toArray, List.set_cons_zero, List.set_cons_succ]
    rfl
  refine pure_ (i := 9) (N := some 141) (v := ?_) (a' := ?_) #[true, true, true, false, true, true, false, false, true, true, false, false, false, false, false, false, false, false] rfl rfl (any_of HT_.out (by kernel_rfl)) (fun _ _ _ h => h) (Or.inl ⟨by rfl, ?_⟩) ?_ ?_
  rotate_left
  · intro w'
    go_simp
    with_reducible rfl
  rotate_left
  · simp only [Act.put, List.setIfInBounds_toArray, List.set_cons_zero, List.set_cons_succ]
    rfl
  refine pure_ (i := 11) (N := some 143) (v := ?_) (a' := ?_) #[true, true, true, false, true, true, false, false, true, true, false, true, false, false, false, false, false, false] rfl rfl (any_of HT_.out (by kernel_rfl)) (fun _ _ _ h => h) (Or.inl ⟨by rfl, ?_⟩) ?_ ?_
  rotate_left
  · intro w'
    go_simp
    with_reducible rfl
  rotate_left
  · simp only [Act.put, List.setIfInBounds_toArray, List.set_cons_zero, List.set_cons_succ]
    rfl
  refine pure_ (i := 12) (N := some 144) (v := ?_) (a' := ?_) #[true, true, true, false, true, true, false, false, true, true, false, true, true, false, false, false, false, false] rfl rfl (any_of HT_.out (by kernel_rfl)) (fun _ _ _ h => h) (Or.inl ⟨by rfl, ?_⟩) ?_ ?_
  rotate_left
  · intro w'
    go_simp
    with_reducible rfl
  rotate_left
  · simp only [Act.put, List.setIfInBounds_toArray, List.set_cons_zero, List.set_cons_succ]
    rfl
  refine take_ (i := 3) (N := some 135) (v := ?_) (a' := ?_) #[true, true, true, true, true, true, false, false, true, true, false, true, true, false, false, false, false, false] rfl rfl (take_ofW HT_.out HW_.out (by kernel_rfl)) (fun _ _ _ h => h) (Or.inl ⟨by rfl, ?_⟩) hHeld ?_ ?_
  rotate_left
  · rintro w' ⟨s0, s1, s2, s3, s4, s5⟩
    go_simp
    with_reducible rfl
  rotate_left
  · simp only [Act.put, List.setIfInBounds_toArray, List.set_cons_zero, List.set_cons_succ]
    rfl
  refine take_ (i := 6) (N := some 138) (v := ?_) (a' := ?_) #[true, true, true, true, true, true, true, false, true, true, false, true, true, false, false, false, false, false] rfl rfl (take_ofW HT_.out HW_.out (by kernel_rfl)) (fun _ _ _ h => h) (Or.inl ⟨by rfl, ?_⟩) hHeld ?_ ?_
  rotate_left
  · rintro w' ⟨s0, s1, s2, s3, s4, s5⟩
    go_simp
    with_reducible rfl
  rotate_left
  · simp only [Act.put, List.setIfInBounds_toArray, List.set_cons_zero, List.set_cons_succ]
    rfl
  refine take_ (i := 10) (N := some 142) (v := ?_) (a' := ?_) #[true, true, true, true, true, true, true, false, true, true, true, true, true, false, false, false, false, false] rfl rfl (take_ofW HT_.out HW_.out (by kernel_rfl)) (fun _ _ _ h => h) (Or.inl ⟨by rfl, ?_⟩) hHeld ?_ ?_
  rotate_left
  · rintro w' ⟨s0, s1, s2, s3, s4, s5⟩
    go_simp
    with_reducible rfl
  rotate_left
  · simp only [Act.put, List.setIfInBounds_toArray, List.set_cons_zero, List.set_cons_succ]
    rfl
  refine take_ (i := 13) (N := some 145) (v := ?_) (a' := ?_) #[true, true, true, true, true, true, true, false, true, true, true, true, true, true, false, false, false, false] rfl rfl (take_ofW HT_.out HW_.out (by kernel_rfl)) (fun _ _ _ h => h) (Or.inl ⟨by rfl, ?_⟩) hHeld ?_ ?_
  rotate_left
  · rintro w' ⟨s0, s1, s2, s3, s4, s5⟩
    go_simp
    with_reducible rfl
  rotate_left
  · simp only [Act.put, List.setIfInBounds_toArray, List.set_cons_zero, List.set_cons_succ]
    rfl
  refine one_ (i := 7) (N := some 139) #[true, true, true, true, true, true, true, true, true, true, true, true, true, true, false, false, false, false] rfl rfl (one_of HT_.out (by kernel_rfl)) (by decide) (fun K hK => ?_)
  refine goes_ Try.func14 (by kernel_rfl) rfl #[.pointer (some ⟨B, 0, none⟩), .agg #[.int .i64 yi, .int .i64 yg], .int .i64 xt] (by rfl) rfl rfl (by (try simp only [List.map_toArray, List.map_cons, List.map_nil]); first | done | rfl) ?_
  refine (moveAt HSt.out.tab ⟨yi, yg⟩ (x := xt) HFx.out.1).mono ?_
  rintro e w4 ⟨rfl, ht4, hc4⟩
  refine ⟨_, rfl, ?_⟩
  have HX4 := Lib.hid (HXc.out.keep hc4 (fun ho => by have := HOw.out _ ho; omega))
  have HT4 := Lib.hid ht4
  have HC4 := Lib.hid hc4
  have HRf := Lib.hid (HSt.out.refKeep hc4)
  have z4 := hc4.size
  clear ht4 hc4
  refine hK.out _ _ ⟨HX4.out.cell (j := 0) rfl, HX4.out.cell (j := 1) rfl, HX4.out.cell (j := 2) rfl, HX4.out.cell (j := 3) rfl, HX4.out.cell (j := 4) rfl, HX4.out.cell (j := 5) rfl⟩ (fun hHeld => ?_)
  clear hK K
  refine norm_ (a' := ?_) ?_ ?_
  rotate_left
  · show Act.put _ (some 139) _ = _
    simp only [Act.put, List.setIfInBounds_toArray, List.set_cons_zero, List.set_cons_succ]
    rfl
  refine one_ (i := 14) (N := some 146) #[true, true, true, true, true, true, true, true, true, true, true, true, true, true, true, false, false, false] rfl rfl (one_of HT_.out (by kernel_rfl)) (by decide) (fun K hK => ?_)
  refine goes_ Try.func41 (by kernel_rfl) rfl #[.pointer (some ⟨D, 0, none⟩), .agg #[.int .i64 yi, .int .i64 yg], .int .i64 xt] (by rfl) rfl rfl (by (try simp only [List.map_toArray, List.map_cons, List.map_nil]); first | done | rfl) ?_
  refine (rmoveAt' HRf.out HL.out ⟨yi, yg⟩ xt HEq.out).mono ?_
  rintro e w5 ⟨rfl, ⟨S', hr5, hS5⟩, hc5⟩
  refine ⟨_, rfl, ?_⟩
  have HX5 := Lib.hid (HX4.out.keep hc5 (by have := HDl.out; omega))
  have HC5 := Lib.hid hc5
  have HR5 := Lib.hid hr5
  have HS5 := Lib.hid hS5
  clear hc5 hr5 hS5 HRf
  refine hK.out _ _ ⟨HX5.out.cell (j := 0) rfl, HX5.out.cell (j := 1) rfl, HX5.out.cell (j := 2) rfl, HX5.out.cell (j := 3) rfl, HX5.out.cell (j := 4) rfl, HX5.out.cell (j := 5) rfl⟩ (fun hHeld => ?_)
  clear hK K
  refine norm_ (a' := ?_) ?_ ?_
  rotate_left
  · show Act.put _ (some 146) _ = _
    simp only [Act.put, List.setIfInBounds_toArray, List.set_cons_zero, List.set_cons_succ]
    rfl
  refine pure_ (i := 15) (N := some 147) (v := ?_) (a' := ?_) #[true, true, true, true, true, true, true, true, true, true, true, true, true, true, true, true, false, false] rfl rfl (any_of HT_.out (by kernel_rfl)) (fun _ _ _ h => h) (Or.inl ⟨by rfl, ?_⟩) ?_ ?_
  rotate_left
  · intro w'
    go_simp
    with_reducible rfl
  rotate_left
  · simp only [Act.put, List.setIfInBounds_toArray, List.set_cons_zero, List.set_cons_succ]
    rfl
  refine pure_ (i := 16) (N := some 8) (v := ?_) (a' := ?_) #[true, true, true, true, true, true, true, true, true, true, true, true, true, true, true, true, true, false] rfl rfl (any_of HT_.out (by kernel_rfl)) (fun _ _ _ h => h) (Or.inl ⟨by rfl, ?_⟩) ?_ ?_
  rotate_left
  · intro w'
    go_simp
    with_reducible rfl
  rotate_left
  · simp only [Act.put, List.setIfInBounds_toArray, List.set_cons_zero, List.set_cons_succ]
    rfl
  refine pure_ (i := 17) (N := some 9) (v := ?_) (a' := ?_) #[true, true, true, true, true, true, true, true, true, true, true, true, true, true, true, true, true, true] rfl rfl (any_of HT_.out (by kernel_rfl)) (fun _ _ _ h => h) (Or.inl ⟨by rfl, ?_⟩) ?_ ?_
  rotate_left
  · intro w'
    go_simp
    with_reducible rfl
  rotate_left
  · simp only [Act.put, List.setIfInBounds_toArray, List.set_cons_zero, List.set_cons_succ]
    rfl
  refine done_ (done_of HT_.out (by kernel_rfl)) ?_
  clear hHeld HT_ HW_
  go_wp2_with fail
  go_ret2
  obtain ⟨hd, hb⟩ := HSt.out.both (m' := m + 1) (Or.inl rfl) HC4.out HT4.out HS5.out HC5.out HR5.out HRel.out (by omega) (by rw [HG3.out]; have := HFew.out; omega) (by rw [HG2.out]; have := HSer.out; omega)
  have ed : doT t told kind ⟨⟨yi, yg⟩, ⟨xt, xn, xk, xd⟩⟩ = ((moveR t ⟨yi, yg⟩ xt).2, told) := by unfold doT; rw [if_neg (by rw [HK.out]; decide), if_neg (by rw [HK.out]; decide), if_neg (by rw [HK.out]; decide)]
  rw [ed]
  exact ⟨_, _, _, _, _, _, rfl, hd, (HBc.out.mono HSt0.out.n).trans hb⟩
end Go.Proofs.Ytccfjjaljckinaa.Tag
/- One act on both tables, at every input; what a handle and a time are answered. No conditions. -/
namespace Go.Proofs.Ytccfjjaljckinaa.Tag
open Go.RowKit Go.Lib Go.Shelf Go.Proofs.Ytccfjjaljckinaa.Mem Go.Proofs.Ytccfjjaljckinaa.IMap Go.Proofs.YtccfjjaljckinaaW.PrintWords Go.Proofs.YtccfjjaljckinaaW.PrintLast Go.Proofs.YtccfjjaljckinaaW.PrintMore Go.Proofs.Ytccfjjaljckinaa.PTagActs
set_option linter.unusedVariables false

theorem rest4 (a : Int) : restI a 4 = 0 ∨ restI a 4 = 1 ∨ restI a 4 = 2 ∨ restI a 4 = 3 := by
  have := rest_in a 4 (by decide) (by decide)
  omega
theorem doAt {N m : Nat} {w : World} {O S U : Nat → Prop} {B D : Nat} {t : Tab} {r : RTab} {A : Option Addr} {c : Nat} {told : List Listed} (h : Duo N m w O S U B D t r A c told) (a : Act) (hx : In64O a.x.o) (hm : m ≤ 1000) :
    Calls Try.prog 19 #[.pointer (some ⟨B, 0, none⟩), .pointer (some ⟨D, 0, none⟩), .slice A told.length c, .agg (encA a).toArray] w fun e w' => ∃ O' S' U' r' A' c',
      e = .returned (.tuple #[.slice A' (doT t told a.kind (pickX told a.kind a.place a.told a.x)).2.length c', .bool true]) ∧
      Duo N (m + 1) w' O' S' U' B D (doT t told a.kind (pickX told a.kind a.place a.told a.x)).1 r' A' c' (doT t told a.kind (pickX told a.kind a.place a.told a.x)).2 ∧ Below N w w' := by
  obtain ⟨kind, place, tld, ⟨⟨xi, xg⟩, ⟨xt, xn, xk, xd⟩⟩⟩ := a
  simp only at hx ⊢
  have hr4 := rest4 kind
  have plain : ∀ b, (b = false ∨ told = []) → pickX told kind place b ⟨⟨xi, xg⟩, ⟨xt, xn, xk, xd⟩⟩ = ⟨⟨xi, xg⟩, ⟨xt, xn, xk, xd⟩⟩ := by
    intro b hb
    unfold pickX
    rw [if_neg]
    rintro ⟨h1, h2⟩
    rcases hb with hb | hb
    · rw [hb] at h1; cases h1
    · exact h2 hb
  cases tld with
  | false =>
    rw [plain false (Or.inl rfl)]
    rcases hr4 with hk | hk | hk | hk
    · by_cases hM : mayE t xt = 0
      · exact do_0ka h hk hx hm hM
      · exact do_0ea h hk hx hm hM
    · exact do_1a h hk hx hm
    · exact do_2a h hk hx hm
    · exact do_3a h hk hx hm
  | true =>
    by_cases h0 : told.length = 0
    · rw [plain true (Or.inr (List.length_eq_zero_iff.1 h0))]
      rcases hr4 with hk | hk | hk | hk
      · by_cases hM : mayE t xt = 0
        · exact do_0kb h hk h0 hx hm hM
        · exact do_0eb h hk h0 hx hm hM
      · exact do_1b h hk h0 hx hm
      · exact do_2b h hk h0 hx hm
      · exact do_3b h hk h0 hx hm
    · have hlen := h.len
      have hri := rest_in place (told.length : Int) (by omega) (by omega)
      obtain ⟨ix, hix⟩ : ∃ ix : Nat, restI place told.length = ix := ⟨(restI place told.length).toNat, by omega⟩
      obtain ⟨y, hy⟩ : ∃ y, told[ix]? = some y := ⟨_, List.getElem?_eq_getElem (by omega)⟩
      have hp : pickX told kind place true ⟨⟨xi, xg⟩, ⟨xt, xn, xk, xd⟩⟩ = if restI kind 4 = 2 then y else ⟨y.r, ⟨xt, xn, xk, xd⟩⟩ := by
        unfold pickX
        rw [if_pos ⟨rfl, fun e => h0 (by rw [e]; rfl)⟩, hix, Int.toNat_natCast, hy]
      rw [hp]
      obtain ⟨⟨yi, yg⟩, ⟨yt, yn, yk, yd⟩⟩ := y
      rcases hr4 with hk | hk | hk | hk
      · rw [if_neg (by rw [hk]; decide)]
        by_cases hM : mayE t xt = 0
        · exact do_0kc h hk hix hy hx hm hM
        · exact do_0ec h hk hix hy hx hm hM
      · rw [if_neg (by rw [hk]; decide)]
        exact do_1c h hk hix hy hx hm
      · rw [if_pos hk]
        exact do_2d h hk hix hy hx hm
      · rw [if_neg (by rw [hk]; decide)]
        exact do_3c h hk hix hy hx hm

section
variable {w : World} {O S : Nat → Prop} {B D : Nat} {t : Tab} {r : RTab}
end

def newR (c : Int) : RTab := ⟨capC c, 0, [], []⟩
theorem newRel (c : Int) : Rel (newT c) (newR c) := ⟨rfl, rfl, rfl, List.Pairwise.nil, fun x => by simp [newR, newT, liveL]⟩
theorem newRef {w : World} {D : Nat} {c : Int} (h : Blk w D #[.int .i64 (capC c), .int .i64 0, .slice none 0 0, .slice none 0 0] 49) : RefAt w (fun _ => False) D (newR c) :=
  ⟨none, 0, none, 0, h, Nat.le_refl _, Nat.le_refl _, Kd.F_nil _ _ _, Kd.F_nil _ _ _, fun k hk => hk.elim⟩
end Go.Proofs.Ytccfjjaljckinaa.Tag
