/- Finding an operation; the handle of a time. -/
import Derived.Test.YtccfjjaljckinaaTagC
import Derived.Test.YtccfjjaljckinaaWWords
namespace Go.Proofs.Ytccfjjaljckinaa.Tag
open Go.RowKit Go.Lib Go.Proofs.Ytccfjjaljckinaa.Mem Go.Proofs.Ytccfjjaljckinaa.IMap Go.Proofs.YtccfjjaljckinaaW.PrintWords

section
variable {w : World} {B M : Nat} {v : Value} {t : Tab}
def aggOp (o : TOp) : Value := .agg #[.int .i64 o.time, .bool o.ins, .int .i64 o.key, .int .i64 o.id]

theorem findOf_some {ri rg : Int} {i : Nat} (h : findOf t ri rg = some i) : ∃ s, t.slots[i]? = some s ∧ ri = i ∧ s.gen = rg ∧ 1 ≤ rg := by
  unfold findOf at h
  split at h
  · rename_i hc
    obtain ⟨h0, h1, h2, h3⟩ := hc
    injection h with h
    cases hs : t.slots[ri.toNat]? with
    | none => rw [hs] at h3; cases h3
    | some s =>
      rw [hs] at h3
      injection h3 with h3
      exact ⟨s, by rw [← h]; exact hs, by omega, h3, h2⟩
  · cases h

set_option maxRecDepth 100000 in
set_option maxHeartbeats 1000000 in
theorem findOp_some (h : TabV w B M v t) {ri rg : Int} {i : Nat} {s : Slot} (hf : findOf t ri rg = some i) (hs : t.slots[i]? = some s) :
    Calls Try.prog 23 #[.pointer (some ⟨B, 0, none⟩), .agg #[.int .i64 ri, .int .i64 rg]] w fun e w' => e = .returned (.tuple #[aggOp s.op, .bool true]) ∧ Below w.heap.size w w' := by
  obtain ⟨s', hs', hi, hg, h1⟩ := findOf_some hf
  rw [hs] at hs'
  injection hs' with hs'
  subst hs'
  obtain ⟨R, cap, hv, hR, hle, hRB, hRM, hc, hfr⟩ := h.cells hs
  have CF : Hid (∀ w1, Below w.heap.size w w1 → Calls Try.prog 32 #[.pointer (some ⟨B, 0, none⟩), .agg #[.int .i64 ri, .int .i64 rg]] w1 fun e w' => e = .returned (.pointer (some ⟨R, i * 6, none⟩)) ∧ Below w1.heap.size w1 w') := Lib.hid (fun w1 hb => by
    obtain ⟨R', cap', hv', hcall⟩ := find_some (h.fresh hb) hs hi hg h1
    rw [hv] at hv'
    injection hv' with hv' _ _
    injection hv' with hv'
    injection hv' with hv' _ _
    subst hv'
    exact hcall)
  have HC : Hid (∀ j u, (encSlot s)[j]? = some u → w.cell? ⟨R, i * 6 + j, none⟩ = some u) := Lib.hid hc
  have hu28 := Try.underlying28
  have hu32 := Try.underlying32
  unfold aggOp
  clear h hf hs hc hfr hv hi hg h1 hle
  go_enter Try.func23, Try.ntmps23
  go_wp2_with fail
  refine gw (fun wa hwa => ?_)
  have HB1 : Hid (Below w.heap.size w wa) := Lib.hid (by rw [← hwa]; exact ((Below.refl _ _).alloc (Nat.le_refl _) _).alloc (by simp) _)
  have HX1 : Hid (Blk wa (w.heap.size + 1) #[.int .i64 0, .bool false, .int .i64 0, .int .i64 0] 32) := Lib.hid (by rw [← hwa]; exact Blk.at_ (by simp) _ _)
  clear hwa
  refine (CF.out _ HB1.out).mono ?_
  rintro e w2 ⟨rfl, hb⟩
  have HX2 := Lib.hid (HX1.out.below hb)
  have HB2 : Hid (Below w.heap.size w w2) := Lib.hid (btrans HB1.out hb)
  have k2 : w2.cell? ⟨R, i * 6 + 2, none⟩ = some (.int .i64 s.op.time) := bcell HB2.out (HC.out 2 _ rfl) hR
  have k3 : w2.cell? ⟨R, i * 6 + 3, none⟩ = some (.bool s.op.ins) := bcell HB2.out (HC.out 3 _ rfl) hR
  have k4 : w2.cell? ⟨R, i * 6 + 4, none⟩ = some (.int .i64 s.op.key) := bcell HB2.out (HC.out 4 _ rfl) hR
  have k5 : w2.cell? ⟨R, i * 6 + 5, none⟩ = some (.int .i64 s.op.id) := bcell HB2.out (HC.out 5 _ rfl) hR
  have x0 := HX2.out.cell (j := 0) rfl
  have x1 := HX2.out.cell (j := 1) rfl
  have x2 := HX2.out.cell (j := 2) rfl
  have x3 := HX2.out.cell (j := 3) rfl
  have f0 := HX2.out.free 0
  have f1 := HX2.out.free 1
  have f2 := HX2.out.free 2
  have f3 := HX2.out.free 3
  clear hb HB1 HX1 HC CF
  go_wp2_with fail
  refine bodyPost_ret (results_ct rfl _ _ (w.heap.size + 1) 32 _ (0, 0) _ rfl ((((HX2.out.set 0 (.int .i64 s.op.time)).set 1 (.bool s.op.ins)).set 2 (.int .i64 s.op.key)).set 3 (.int .i64 s.op.id)) Try.underlying32 rfl (by kernel_rfl)) rfl ?_
  exact ⟨rfl, (((HB2.out.setCell (by simp) _).setCell (by simp) _).setCell (by simp) _).setCell (by simp) _⟩

set_option maxRecDepth 100000 in
set_option maxHeartbeats 1000000 in
theorem findOp_none (h : TabV w B M v t) {ri rg : Int} (hf : findOf t ri rg = none) :
    Calls Try.prog 23 #[.pointer (some ⟨B, 0, none⟩), .agg #[.int .i64 ri, .int .i64 rg]] w fun e w' => e = .returned (.tuple #[aggOp op0, .bool false]) ∧ Below w.heap.size w w' := by
  have CF : Hid (∀ w1, Below w.heap.size w w1 → Calls Try.prog 32 #[.pointer (some ⟨B, 0, none⟩), .agg #[.int .i64 ri, .int .i64 rg]] w1 fun e w' => e = .returned (.pointer none) ∧ Below w1.heap.size w1 w') := Lib.hid (fun w1 hb => find_none (h.fresh hb) hf)
  have hu28 := Try.underlying28
  have hu32 := Try.underlying32
  unfold aggOp op0
  clear h hf
  go_enter Try.func23, Try.ntmps23
  go_wp2_with fail
  refine gw (fun wa hwa => ?_)
  have HB1 : Hid (Below w.heap.size w wa) := Lib.hid (by rw [← hwa]; exact ((Below.refl _ _).alloc (Nat.le_refl _) _).alloc (by simp) _)
  have HX1 : Hid (Blk wa (w.heap.size + 1) #[.int .i64 0, .bool false, .int .i64 0, .int .i64 0] 32) := Lib.hid (by rw [← hwa]; exact Blk.at_ (by simp) _ _)
  clear hwa
  refine (CF.out _ HB1.out).mono ?_
  rintro e w2 ⟨rfl, hb⟩
  have HX2 := Lib.hid (HX1.out.below hb)
  have HB2 : Hid (Below w.heap.size w w2) := Lib.hid (btrans HB1.out hb)
  have x0 := HX2.out.cell (j := 0) rfl
  have x1 := HX2.out.cell (j := 1) rfl
  have x2 := HX2.out.cell (j := 2) rfl
  have x3 := HX2.out.cell (j := 3) rfl
  have f0 := HX2.out.free 0
  have f1 := HX2.out.free 1
  have f2 := HX2.out.free 2
  have f3 := HX2.out.free 3
  clear hb HB1 HX1 CF
  go_wp2_with fail
  refine bodyPost_ret (results_ct rfl _ _ (w.heap.size + 1) 32 _ (0, 0) _ rfl ((((HX2.out.set 0 (.int .i64 0)).set 1 (.bool false)).set 2 (.int .i64 0)).set 3 (.int .i64 0)) Try.underlying32 rfl (by kernel_rfl)) rfl ?_
  exact ⟨rfl, (((HB2.out.setCell (by simp) _).setCell (by simp) _).setCell (by simp) _).setCell (by simp) _⟩
end
end Go.Proofs.Ytccfjjaljckinaa.Tag
