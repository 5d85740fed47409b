/- The row of the law BoxActs, over its walk: whatever the input, the law's function answers true and leaves its input as it was. No conditions. -/
import Derived.Test.YtfkbijkmdnieiaaRows
import Derived.Test.YtfkbijkmdnieiaaBoxActs
import Derived.Test.YtfkbijkmdnieiaaOpen3
import Derived.WalkKit
import Derived.ProofKit
import Derived.OpenShut
import Derived.ShutString
import Derived.ChangeOld
import Derived.Below
import Derived.SizedLaws
namespace Go.Proofs.Ytfkbijkmdnieiaa.rowBoxActs
open Go.ChangeShapes Go.WideShapes Go.ChangeAt Go.RowKit Go.Proofs.Ytfkbijkmdnieiaa.Open Go.Proofs.YtfkbijkmdnieiaaW.PrintWords
open Go.ChangeMaps (open_string shut_string)
set_option linter.unusedVariables false
theorem own : ownKnob Try.prog.godebug = none := by kernel_rfl
theorem laidOut : laidOutB Try.prog = true := by kernel_rfl
set_option maxRecDepth 100000 in
theorem lifted (os : Os) (started : os.Started) (H : Type) (enc : TypeId × Value → H) :
    ReturnsInHanded {} Try.checked os 16 .any (Rows.boxActsSpec.pre6 enc Try.prog Try.f16 Rows.boxActsRow.domain false) (Rows.boxActsSpec.post enc Try.prog Try.f16 false true false false) := by
  refine returnsInHanded_of_change_sized (C := Try.checked) own started (by kernel_rfl) Try.func16
    (ChangeSpec.witness6 (enc := enc) (C := Try.checked) false ⟨#[], #[.agg #[.int .i64 0, .int .i64 0, .int .i64 0], .slice none 0 0], []⟩ 8 (by kernel_rfl) (by kernel_rfl) (by kernel_rfl) (by kernel_rfl)) ?_
  intro W base args ds gs before hval0 hW hcnd hsz0 _
  have hsz : (DataW.weightsEach Try.prog (Try.f16.params.toList ++ Rows.boxActsSpec.plain.varTypes Try.prog) (ds ++ gs)).all (· ≤ reachBytes) = true := hsz0
  have hval : ∀ (j : Nat) t v, Try.f16.params[j]? = some t → args[j]? = some v → Value.okWide Try.prog W .any base t v := hval0
  have hW' := hW
  obtain ⟨p, q, hA0, hV, rfl, hfz, hnd⟩ := hW
  have hA : DataW.TrodAll enc Try.prog W 0 (fun _ => true) true Try.f16.params.toList args.toList ds p := hA0
  rw [Try.params16] at hA hval hsz
  obtain ⟨v0, vs0, d0, ds0, p0, q0, hargs, rfl, rfl, h0, r0⟩ := trodAll_cons hA
  obtain ⟨v1, vs1, d1, ds1, p1, q1, rfl, rfl, rfl, h1, r1⟩ := trodAll_cons r0
  obtain ⟨rfl, rfl, rfl⟩ := trodAll_nil r1
  obtain rfl : args = #[v0, v1] := by cases args; simp_all
  obtain ⟨rfl, rfl⟩ := trodVars_none hV
  obtain ⟨b0, rfl, _⟩ := okWide_array Try.underlying75 (hval 0 75 v0 rfl rfl)
  have k0 := h0
  have lt0 : ∀ x ∈ p0, x.block < W.heap.size := by obtain ⟨m, hm⟩ := k0; exact DataW.trod_lt m _ _ _ hm
  obtain ⟨z0, c0, y0⟩ := open_agg (d := Kd.pair (Kd.int .i64) (Kd.pair (Kd.int .i64) (Kd.int .i64))) (fits_arr3 Try.underlying75 (by kernel_rfl) (fits_int Try.underlying3 (by kernel_rfl))) h0
  obtain ⟨rest0, e0⟩ := BoxActs.cells z0 c0
  obtain rfl : b0 = #[.int .i64 z0.1, .int .i64 z0.2.1, .int .i64 z0.2.2] := arr_of_list e0
  obtain ⟨a1, len1, cap1, rfl⟩ := okWide_slice Try.underlying76 (hval 1 76 v1 rfl rfl)
  have k1 := h1
  have lt1 : ∀ x ∈ p1, x.block < W.heap.size := by obtain ⟨m, hm⟩ := k1; exact DataW.trod_lt m _ _ _ hm
  obtain ⟨z1, c1, l1, y1⟩ := open_arg (d := Kd.pair (Kd.int .i64) (Kd.pair (Kd.int .i64) (Kd.int .i64))) Try.underlying76 (fits_struct3 Try.underlying84 (by kernel_rfl) rfl rfl rfl (fits_int Try.underlying3 (by kernel_rfl)) (fits_int Try.underlying3 (by kernel_rfl)) (fits_int Try.underlying3 (by kernel_rfl))) h1
  clear hA0 hval0 hsz0 hsz
  refine (BoxActs.walk_row z0 a1 len1 cap1 z1 W rest0 y0 c1 l1 y1).mono fun e W' ⟨he, bel⟩ => ?_
  subst he
  exact ⟨_, rfl, _, _, _, [], _, [], hW', trodAll_mk1 (shut_bool Try.underlying4 _), (trodAll_cons_mk (Below.trod laidOut (by kernel_rfl) (of_decide_eq_true (by kernel_rfl)) k0 bel lt0) (trodAll_cons_mk (Below.trod laidOut (by kernel_rfl) (of_decide_eq_true (by kernel_rfl)) k1 bel lt1) trodAll_mk0)), rfl, bel.frame _, fun h => by cases h⟩
theorem over : Rows.boxActsRow.holds Try.pinned (OpenSpec.ofChange Rows.boxActsSpec) :=
  OpenClaim.holds_of_wide 16 Try.f16 rfl rfl rfl rfl rfl rfl rfl ⟨rfl, rfl, rfl, rfl, rfl⟩ rfl rfl rfl rfl rfl (by kernel_rfl) Try.func16 (by kernel_rfl)
    (of_decide_eq_true (by kernel_rfl)) (by unfold Func.isWrapper; first | (rw [if_pos (by decide +kernel)]; kernel_rfl) | (rw [if_neg (by decide +kernel)]; exact ⟨rfl, rfl⟩))
    (fun os started H enc _ => lifted os started H enc)
theorem proved : Rows.BoxActsSaid := over
#print axioms proved
end Go.Proofs.Ytfkbijkmdnieiaa.rowBoxActs
namespace Go.Proofs.Ytfkbijkmdnieiaa
/-- The row, under a short name, for the claim. -/
theorem boxActs_holds : Rows.BoxActsSaid := rowBoxActs.proved
end Go.Proofs.Ytfkbijkmdnieiaa
