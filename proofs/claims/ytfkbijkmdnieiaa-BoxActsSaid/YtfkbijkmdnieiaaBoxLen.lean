/- A box of ints: Len, Cap, Closed. No conditions. -/
import Derived.Test.YtfkbijkmdnieiaaBoxNew
import Derived.Conc.LoneSelect
import Derived.Conc.LoneSelectN
namespace Go.Proofs.Ytfkbijkmdnieiaa.BoxInt
open Go.RowKit Go.Conc Go.Proofs.Ytfkbijkmdnieiaa.Mem Go.Proofs.YtfkbijkmdnieiaaW.PrintWords

set_option maxRecDepth 100000 in
set_option maxHeartbeats 400000 in
theorem len (B C D cap : Nat) (vs : List Int) (cl : Bool) (w : World) (h : IsBox w B C D cap vs cl) :
    Calls Try.prog 49 #[.pointer (some ⟨B, 0, none⟩)] w fun e w' => e = .returned (.int .i64 vs.length) ∧ w = w' := by
  have c0 := h.head.cell (j := 0) rfl
  have c1 := h.head.cell (j := 1) rfl
  obtain ⟨s, r, hc⟩ := h.vals
  have hl := run_len_chan (P := Try.prog) 96 3 Try.underlying96 hc
  simp only [List.size_toArray, List.length_map] at hl
  clear h hc
  go_enter Try.func49, Try.ntmps49
  go_wp2
  go_ret
  exact ⟨rfl, rfl⟩

set_option maxRecDepth 100000 in
set_option maxHeartbeats 400000 in
theorem cap (B C D cap : Nat) (vs : List Int) (cl : Bool) (w : World) (h : IsBox w B C D cap vs cl) :
    Calls Try.prog 64 #[.pointer (some ⟨B, 0, none⟩)] w fun e w' => e = .returned (.int .i64 cap) ∧ w = w' := by
  have c0 := h.head.cell (j := 0) rfl
  have c1 := h.head.cell (j := 1) rfl
  obtain ⟨s, r, hc⟩ := h.vals
  have hl := run_cap_chan (P := Try.prog) 96 3 Try.underlying96 hc
  clear h hc
  go_enter Try.func64, Try.ntmps64
  go_wp2
  go_ret
  exact ⟨rfl, rfl⟩

theorem zero103 (w : World) : (Go.zeroValue 103).run Try.prog w = .ok (.agg #[]) w := by
  have h : (Try.prog.info? 103).map (·.zero) = some (some (.agg #[])) := by kernel_rfl
  obtain ⟨i, hi, hz⟩ := Option.map_eq_some_iff.1 h
  simp [Go.zeroValue, Go.typeInfo, hi, hz]

set_option maxRecDepth 100000 in
set_option maxHeartbeats 400000 in
theorem closed_no (B C D cap : Nat) (vs : List Int) (w : World) (h : IsBox w B C D cap vs false) :
    Calls Try.prog 70 #[.pointer (some ⟨B, 0, none⟩)] w fun e w' => e = .returned (.bool false) ∧ w' = w := by
  have c0 := h.head.cell (j := 0) rfl
  have c1 := h.head.cell (j := 1) rfl
  obtain ⟨s, r, hc⟩ := h.done
  clear h
  refine calls_of_loneTo fun cs => ?_
  have e : Frame.enter Try.prog 70 #[.pointer (some ⟨B, 0, none⟩)] .normal = (base 70).at ⟨#[.pointer (some ⟨B, 0, none⟩), undef, undef, undef, undef, undef, undef, undef, undef, undef], []⟩ [.code (Try.f70.body.getD .skip)] := by
    simp [Frame.enter, Frame.at, Try.func70, base, Try.f70]
  rw [e]
  clear e
  refine LoneTo.goes (n := 13) ?_
  simp only [Try.f70, Option.getD_some]
  s_c stepG_seq
  s_reg
  s_op
  s_c stepG_region_end
  repeat (first | s_c stepG_seq | s_reg)
  s_op
  s_op
  s_op
  s_op
  s_c stepG_region_end
  repeat (first | s_c stepG_seq | s_reg)
  s_stop
  have hz := zero103
  refine LoneTo.step (step_lone_select_default (c := D) (z := .agg #[]) (cap := 0) (s := s) (r := r) (tm := false) (stepG_comm (cases := #[rcase D (.agg #[])]) (blocking := false) (shape := .select) (w' := w) rfl rfl (by decide) (by simp [go_sem, execOp, rcase, Act.eval, hz])) hc) ?_
  rw [Frame.finish_at]
  walk_nrm
  refine LoneTo.goes (n := 10) ?_
  s_op
  s_op
  s_c stepG_region_end
  s_c stepG_block
  s_cond false
  s_c stepG_seq
  s_reg
  s_op
  s_c stepG_region_end
  s_c stepG_ret'
  s_stop
  exact LoneTo.done ⟨.returned (.bool false), _, rfl, ⟨rfl, rfl⟩, rfl, rfl, rfl, rfl, _, Try.func70, by simp [results, Try.f70, Frame.at]⟩

set_option maxRecDepth 100000 in
set_option maxHeartbeats 400000 in
theorem closed_yes (B C D cap : Nat) (vs : List Int) (w : World) (h : IsBox w B C D cap vs true) :
    Calls Try.prog 70 #[.pointer (some ⟨B, 0, none⟩)] w fun e w' => e = .returned (.bool true) ∧ w' = w := by
  have c0 := h.head.cell (j := 0) rfl
  have c1 := h.head.cell (j := 1) rfl
  obtain ⟨s, r, hc⟩ := h.done
  clear h
  refine calls_of_loneTo fun cs => ?_
  have e : Frame.enter Try.prog 70 #[.pointer (some ⟨B, 0, none⟩)] .normal = (base 70).at ⟨#[.pointer (some ⟨B, 0, none⟩), undef, undef, undef, undef, undef, undef, undef, undef, undef], []⟩ [.code (Try.f70.body.getD .skip)] := by
    simp [Frame.enter, Frame.at, Try.func70, base, Try.f70]
  rw [e]
  clear e
  refine LoneTo.goes (n := 13) ?_
  simp only [Try.f70, Option.getD_some]
  s_c stepG_seq
  s_reg
  s_op
  s_c stepG_region_end
  repeat (first | s_c stepG_seq | s_reg)
  s_op
  s_op
  s_op
  s_op
  s_c stepG_region_end
  repeat (first | s_c stepG_seq | s_reg)
  s_stop
  have hz := zero103
  refine LoneTo.step (step_lone_select_recv_shut (c := D) (z := .agg #[]) (cap := 0) (s := s) (r := r) (tm := false) (stepG_comm (cases := #[rcase D (.agg #[])]) (blocking := false) (shape := .select) (w' := w) rfl rfl (by decide) (by simp [go_sem, execOp, rcase, Act.eval, hz])) hc) ?_
  rw [Frame.finish_at]
  walk_nrm
  refine LoneTo.goes (n := 10) ?_
  s_op
  s_op
  s_c stepG_region_end
  s_c stepG_block
  s_cond true
  s_c stepG_seq
  s_reg
  s_op
  s_c stepG_region_end
  s_c stepG_ret'
  s_stop
  exact LoneTo.done ⟨.returned (.bool true), _, rfl, ⟨rfl, rfl⟩, rfl, rfl, rfl, rfl, _, Try.func70, by simp [results, Try.f70, Frame.at]⟩
end Go.Proofs.Ytfkbijkmdnieiaa.BoxInt
