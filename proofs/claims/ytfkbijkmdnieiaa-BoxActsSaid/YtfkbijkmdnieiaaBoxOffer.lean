/- A box of ints: Offer. No conditions. -/
import Derived.Test.YtfkbijkmdnieiaaBoxLen
namespace Go.Proofs.Ytfkbijkmdnieiaa.BoxInt
open Go.RowKit Go.Conc Go.Proofs.Ytfkbijkmdnieiaa.Mem Go.Proofs.YtfkbijkmdnieiaaW.PrintWords

/-- Inside a lone walk: a callee that has just been entered is met by its contract. -/
theorem lone_callee {P : Program} {Q : Goroutine → World → Prop} {f : FuncId} {args : Array Value} {w : World} {R : Ending → World → Prop} {c : Frame} {cs : List Frame} (h : Calls P f args w R)
    (hr : ∀ e w', R e w' → ∃ v, e = .returned v ∧ LoneTo P Q (G (c.finish v) cs) w') : LoneTo P Q (G (Frame.enter P f args .normal) (c :: cs)) w := by
  obtain ⟨e, w', fr, hR, hc, hf, hl⟩ := h (c :: cs)
  obtain ⟨v, rfl, g2, w2, hs, hq⟩ := hr e w' hR
  exact ⟨g2, w2, Steps.trans hc (Steps.head (step_leave_returned hl) hs), hq⟩

theorem enter70 (B : Nat) : Frame.enter Try.prog 70 #[.pointer (some ⟨B, 0, none⟩)] .normal = (base 70).at ⟨#[.pointer (some ⟨B, 0, none⟩), undef, undef, undef, undef, undef, undef, undef, undef, undef], []⟩ [.code (Try.f70.body.getD .skip)] := by
  simp [Frame.enter, Frame.at, Try.func70, base, Try.f70]

theorem lone_closed {Q : Goroutine → World → Prop} {w : World} {R : Ending → World → Prop} {c : Frame} {cs : List Frame} (B : Nat) (h : Calls Try.prog 70 #[.pointer (some ⟨B, 0, none⟩)] w R)
    (hr : ∀ e w', R e w' → ∃ v, e = .returned v ∧ LoneTo Try.prog Q (G (c.finish v) cs) w') : LoneTo Try.prog Q (G ((base 70).at ⟨#[.pointer (some ⟨B, 0, none⟩), undef, undef, undef, undef, undef, undef, undef, undef, undef], []⟩ [.code (Try.f70.body.getD .skip)]) (c :: cs)) w := by
  rw [← enter70]; exact lone_callee h hr

theorem zero3 (w : World) : (Go.zeroValue 3).run Try.prog w = .ok (.int .i64 0) w := by
  have h : (Try.prog.info? 3).map (·.zero) = some (some (.int .i64 0)) := by kernel_rfl
  obtain ⟨i, hi, hz⟩ := Option.map_eq_some_iff.1 h
  simp [Go.zeroValue, Go.typeInfo, hi, hz]

theorem chg_setChan (w : World) (C cap : Nat) (buf : Array Value) (cl : Bool) (s r : Nat) (tm : Bool) : Chg (fun k => k = C) w (w.setChan C cap buf cl s r tm) := by
  refine ⟨rfl, rfl, rfl, Nat.le_of_eq (size_setChan ..).symm, fun k _ hn => ?_⟩
  simp only [World.setChan]; rw [Array.getElem?_setIfInBounds_ne (fun e => hn e.symm)]

theorem IsBox.put {B C D cap s r : Nat} {vs us : List Int} {cl : Bool} {w : World} (h : IsBox w B C D cap vs cl) (hu : us.length ≤ cap) {buf : Array Value} (hb : buf = (us.map (.int .i64)).toArray) : IsBox (w.setChan C cap buf false s r false) B C D cap us cl ∧ Chg (fun k => k = C) w (w.setChan C cap buf false s r false) := by
  have hc := chg_setChan w C cap buf false s r false
  subst hb
  exact ⟨⟨h.head.keep hc h.apart.1, ⟨s, r, heap_setChan w C cap _ false s r false h.vals.lt⟩, h.done.keep hc (fun e => h.apart.2.2 e.symm), h.apart, hu, h.room, h.most⟩, hc⟩

set_option maxRecDepth 100000 in
set_option maxHeartbeats 400000 in
theorem offer_shut (B C D cap : Nat) (vs : List Int) (v : Int) (w : World) (h : IsBox w B C D cap vs true) :
    Calls Try.prog 46 #[.pointer (some ⟨B, 0, none⟩), .int .i64 v] w fun e w' => e = .returned (.bool false) ∧ w' = w := by
  have HC := Lib.hid (closed_yes B C D cap vs w h)
  clear h
  refine calls_of_loneTo fun cs => ?_
  have e : Frame.enter Try.prog 46 #[.pointer (some ⟨B, 0, none⟩), .int .i64 v] .normal = (base 46).at ⟨#[.pointer (some ⟨B, 0, none⟩), .int .i64 v, undef, undef, undef, undef, undef, undef, undef, undef, undef, undef, undef, undef, undef], []⟩ [.code (Try.f46.body.getD .skip)] := by
    simp [Frame.enter, Frame.at, Try.func46, base, Try.f46]
  rw [e]
  clear e
  refine LoneTo.goes (n := 9) ?_
  simp only [Try.f46, Option.getD_some]
  s_c stepG_seq
  s_reg
  s_op
  s_c stepG_region_end
  repeat (first | s_c stepG_seq | s_reg)
  s_op
  s_call Try.func70 (by decide) Try.f70
  s_stop
  refine lone_closed B HC.out ?_
  rintro e w' ⟨rfl, rfl⟩
  refine ⟨_, rfl, ?_⟩
  rw [Frame.finish_at]
  walk_nrm
  refine LoneTo.goes (n := 7) ?_
  s_c stepG_region_end
  s_cond true
  s_c stepG_seq
  s_reg
  s_op
  s_c stepG_region_end
  s_c stepG_ret'
  s_stop
  exact LoneTo.done ⟨.returned (.bool false), _, rfl, ⟨rfl, rfl⟩, rfl, rfl, rfl, rfl, _, Try.func46, by simp [results, Try.f46, Frame.at]⟩
set_option maxRecDepth 100000 in
set_option maxHeartbeats 400000 in
theorem offer_room (B C D cap : Nat) (vs : List Int) (v : Int) (w : World) (h : IsBox w B C D cap vs false) (hn : vs.length < cap) :
    Calls Try.prog 46 #[.pointer (some ⟨B, 0, none⟩), .int .i64 v] w fun e w' => e = .returned (.bool true) ∧ IsBox w' B C D cap (vs ++ [v]) false ∧ Chg (fun k => k = C) w w' := by
  have HC := Lib.hid (closed_no B C D cap vs w h)
  have HB := Lib.hid h
  have c0 := h.head.cell (j := 0) rfl
  obtain ⟨s, r, hc⟩ := h.vals
  clear h
  refine calls_of_loneTo fun cs => ?_
  have e : Frame.enter Try.prog 46 #[.pointer (some ⟨B, 0, none⟩), .int .i64 v] .normal = (base 46).at ⟨#[.pointer (some ⟨B, 0, none⟩), .int .i64 v, undef, undef, undef, undef, undef, undef, undef, undef, undef, undef, undef, undef, undef], []⟩ [.code (Try.f46.body.getD .skip)] := by
    simp [Frame.enter, Frame.at, Try.func46, base, Try.f46]
  rw [e]
  clear e
  refine LoneTo.goes (n := 9) ?_
  simp only [Try.f46, Option.getD_some]
  s_c stepG_seq
  s_reg
  s_op
  s_c stepG_region_end
  repeat (first | s_c stepG_seq | s_reg)
  s_op
  s_call Try.func70 (by decide) Try.f70
  s_stop
  refine lone_closed B HC.out ?_
  rintro e w' ⟨rfl, rfl⟩
  refine ⟨_, rfl, ?_⟩
  rw [Frame.finish_at]
  walk_nrm
  refine LoneTo.goes (n := 16) ?_
  s_c stepG_region_end
  s_cond false
  s_c stepG_skip
  repeat (first | s_c stepG_seq | s_reg)
  s_op
  s_op
  s_op
  s_op
  s_c stepG_region_end
  s_reg
  s_op
  s_c stepG_region_end
  repeat (first | s_c stepG_seq | s_reg)
  s_stop
  have hz := zero3
  refine LoneTo.step (step_lone_select_send_room (c := C) (v := .int .i64 v) (cap := cap) (s := s) (r := r) (tm := false) (stepG_comm (cases := #[scase C (.int .i64 v) (.int .i64 0)]) (blocking := false) (shape := .select) (w' := w') rfl rfl (by decide) (by simp [go_sem, execOp, scase, Act.eval, hz])) hc (by simp; omega)) ?_
  rw [Frame.finish_at]
  walk_nrm
  refine LoneTo.goes (n := 10) ?_
  s_op
  s_op
  s_c stepG_region_end
  s_c stepG_block
  s_cond true
  s_c stepG_seq
  s_reg
  s_op
  s_c stepG_region_end
  s_c stepG_ret'
  s_stop
  exact LoneTo.done ⟨.returned (.bool true), _, rfl, ⟨rfl, HB.out.put (by simp; omega) (by simp)⟩, rfl, rfl, rfl, rfl, _, Try.func46, by simp [results, Try.f46, Frame.at]⟩

set_option maxRecDepth 100000 in
set_option maxHeartbeats 400000 in
theorem offer_full (B C D cap : Nat) (vs : List Int) (v : Int) (w : World) (h : IsBox w B C D cap vs false) (hn : vs.length = cap) :
    Calls Try.prog 46 #[.pointer (some ⟨B, 0, none⟩), .int .i64 v] w fun e w' => e = .returned (.bool false) ∧ w' = w := by
  have HC := Lib.hid (closed_no B C D cap vs w h)
  have HB := Lib.hid h
  have c0 := h.head.cell (j := 0) rfl
  obtain ⟨s, r, hc⟩ := h.vals
  clear h
  refine calls_of_loneTo fun cs => ?_
  have e : Frame.enter Try.prog 46 #[.pointer (some ⟨B, 0, none⟩), .int .i64 v] .normal = (base 46).at ⟨#[.pointer (some ⟨B, 0, none⟩), .int .i64 v, undef, undef, undef, undef, undef, undef, undef, undef, undef, undef, undef, undef, undef], []⟩ [.code (Try.f46.body.getD .skip)] := by
    simp [Frame.enter, Frame.at, Try.func46, base, Try.f46]
  rw [e]
  clear e
  refine LoneTo.goes (n := 9) ?_
  simp only [Try.f46, Option.getD_some]
  s_c stepG_seq
  s_reg
  s_op
  s_c stepG_region_end
  repeat (first | s_c stepG_seq | s_reg)
  s_op
  s_call Try.func70 (by decide) Try.f70
  s_stop
  refine lone_closed B HC.out ?_
  rintro e w' ⟨rfl, rfl⟩
  refine ⟨_, rfl, ?_⟩
  rw [Frame.finish_at]
  walk_nrm
  refine LoneTo.goes (n := 16) ?_
  s_c stepG_region_end
  s_cond false
  s_c stepG_skip
  repeat (first | s_c stepG_seq | s_reg)
  s_op
  s_op
  s_op
  s_op
  s_c stepG_region_end
  s_reg
  s_op
  s_c stepG_region_end
  repeat (first | s_c stepG_seq | s_reg)
  s_stop
  have hz := zero3
  refine LoneTo.step (step_lone_select_send_full (c := C) (v := .int .i64 v) (cap := cap) (s := s) (r := r) (tm := false) (stepG_comm (cases := #[scase C (.int .i64 v) (.int .i64 0)]) (blocking := false) (shape := .select) (w' := w') rfl rfl (by decide) (by simp [go_sem, execOp, scase, Act.eval, hz])) hc (by simp; omega)) ?_
  rw [Frame.finish_at]
  walk_nrm
  refine LoneTo.goes (n := 10) ?_
  s_op
  s_op
  s_c stepG_region_end
  s_c stepG_block
  s_cond false
  s_c stepG_seq
  s_reg
  s_op
  s_c stepG_region_end
  s_c stepG_ret'
  s_stop
  exact LoneTo.done ⟨.returned (.bool false), _, rfl, ⟨rfl, rfl⟩, rfl, rfl, rfl, rfl, _, Try.func46, by simp [results, Try.f46, Frame.at]⟩

end Go.Proofs.Ytfkbijkmdnieiaa.BoxInt
