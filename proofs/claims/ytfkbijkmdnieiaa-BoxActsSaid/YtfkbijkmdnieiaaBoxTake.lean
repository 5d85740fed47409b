/- A box of ints: Take. No conditions. -/
import Derived.Test.YtfkbijkmdnieiaaBoxOffer
namespace Go.Proofs.Ytfkbijkmdnieiaa.BoxInt
open Go.RowKit Go.Conc Go.Proofs.Ytfkbijkmdnieiaa.Mem Go.Proofs.YtfkbijkmdnieiaaW.PrintWords

theorem enter48 (B : Nat) : Frame.enter Try.prog 48 #[.pointer (some ⟨B, 0, none⟩)] .normal = (base 48).at ⟨#[.pointer (some ⟨B, 0, none⟩), undef, undef, undef, undef, undef, undef, undef, undef, undef, undef, undef, undef, undef, undef, undef], []⟩ [.code (Try.f48.body.getD .skip)] := by
  simp [Frame.enter, Frame.at, Try.func48, base, Try.f48]

set_option maxRecDepth 100000 in
set_option maxHeartbeats 400000 in
theorem take_none (B C D cap : Nat) (cl : Bool) (w : World) (h : IsBox w B C D cap [] cl) :
    Calls Try.prog 48 #[.pointer (some ⟨B, 0, none⟩)] w fun e w' => e = .returned (.tuple #[.int .i64 0, .bool false]) ∧ w' = w := by
  have c0 := h.head.cell (j := 0) rfl
  obtain ⟨s, r, hc⟩ := h.vals
  clear h
  refine calls_of_loneTo fun cs => ?_
  rw [enter48]
  refine LoneTo.goes (n := 14) ?_
  simp only [Try.f48, Option.getD_some]
  s_c stepG_seq
  s_reg
  s_op
  s_op
  s_c stepG_region_end
  repeat (first | s_c stepG_seq | s_reg)
  s_op
  s_op
  s_op
  s_op
  s_c stepG_region_end
  repeat (first | s_c stepG_seq | s_reg)
  s_stop
  have hz := zero3
  refine LoneTo.step (step_lone_select_default (c := C) (z := .int .i64 0) (cap := cap) (s := s) (r := r) (tm := false) (stepG_comm (cases := #[rcase C (.int .i64 0)]) (blocking := false) (shape := .select) (w' := w) rfl rfl (by decide) (by simp [go_sem, execOp, rcase, Act.eval, hz])) hc) ?_
  rw [Frame.finish_at]
  walk_nrm
  refine LoneTo.goes (n := 16) ?_
  s_op
  s_op
  s_c stepG_region_end
  s_c stepG_block
  s_cond false
  repeat (first | s_c stepG_seq | s_reg)
  s_op
  s_c stepG_region_end
  repeat (first | s_c stepG_seq | s_reg)
  s_op
  s_op
  s_op
  s_c stepG_region_end
  s_c stepG_ret'
  s_stop
  exact LoneTo.done ⟨.returned (.tuple #[.int .i64 0, .bool false]), _, rfl, ⟨rfl, rfl⟩, rfl, rfl, rfl, rfl, _, Try.func48, by simp [results, Try.f48, Frame.at]⟩

set_option maxRecDepth 100000 in
set_option maxHeartbeats 400000 in
theorem take_some (B C D cap : Nat) (v : Int) (vs : List Int) (cl : Bool) (w : World) (h : IsBox w B C D cap (v :: vs) cl) :
    Calls Try.prog 48 #[.pointer (some ⟨B, 0, none⟩)] w fun e w' => e = .returned (.tuple #[.int .i64 v, .bool true]) ∧ IsBox w' B C D cap vs cl ∧ Chg (fun k => k = C) w w' := by
  have c0 := h.head.cell (j := 0) rfl
  have hle := h.le
  have HB := Lib.hid h
  obtain ⟨s, r, hc⟩ := h.vals
  clear h
  refine calls_of_loneTo fun cs => ?_
  rw [enter48]
  refine LoneTo.goes (n := 14) ?_
  simp only [Try.f48, Option.getD_some]
  s_c stepG_seq
  s_reg
  s_op
  s_op
  s_c stepG_region_end
  repeat (first | s_c stepG_seq | s_reg)
  s_op
  s_op
  s_op
  s_op
  s_c stepG_region_end
  repeat (first | s_c stepG_seq | s_reg)
  s_stop
  have hz := zero3
  refine LoneTo.step (step_lone_select_recv_buf (c := C) (z := .int .i64 0) (cap := cap) (s := s) (r := r) (tm := false) (stepG_comm (cases := #[rcase C (.int .i64 0)]) (blocking := false) (shape := .select) (w' := w) rfl rfl (by decide) (by simp [go_sem, execOp, rcase, Act.eval, hz])) hc (by simp)) ?_
  rw [Frame.finish_at]
  walk_nrm
  refine LoneTo.goes (n := 18) ?_
  s_op
  s_op
  s_c stepG_region_end
  s_c stepG_block
  s_cond true
  repeat (first | s_c stepG_seq | s_reg)
  s_op
  s_op
  s_c stepG_region_end
  repeat (first | s_c stepG_seq | s_reg)
  s_op
  s_op
  s_op
  s_c stepG_region_end
  s_c stepG_ret'
  s_stop
  exact LoneTo.done ⟨.returned (.tuple #[.int .i64 v, .bool true]), _, rfl, ⟨rfl, HB.out.put (by simp at hle; omega) (by simp [List.take_of_length_le])⟩, rfl, rfl, rfl, rfl, _, Try.func48, by simp [results, Try.f48, Frame.at]⟩
end Go.Proofs.Ytfkbijkmdnieiaa.BoxInt
