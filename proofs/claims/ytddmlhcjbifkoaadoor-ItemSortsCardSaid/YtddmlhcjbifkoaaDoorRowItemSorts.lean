/- The row of the law ItemSorts, over its walk: whatever the input, the law's function answers true and leaves its input as it was. No conditions. -/
import Derived.Test.YtddmlhcjbifkoaaDoorRows
import Derived.Test.YtddmlhcjbifkoaaDoorWrapS
import Derived.Test.YtddmlhcjbifkoaaDoorCards
import Derived.Test.YtddmlhcjbifkoaaDoorTie
import Derived.LaidMore
import Derived.SevenTiedAt
import Derived.Stop.Joined
import Derived.Test.YtddmlhcjbifkoaaDoorSort7
import Derived.Test.YtddmlhcjbifkoaaDoorOpen3
import Derived.WalkKit
import Derived.ProofKit
import Derived.OpenShut
import Derived.ShutString
import Derived.ChangeOld
import Derived.Below
import Derived.SizedLaws
namespace Go.Proofs.YtddmlhcjbifkoaaDoor.rowItemSorts
open Go.ChangeShapes Go.WideShapes Go.ChangeAt Go.RowKit Go.Proofs.YtddmlhcjbifkoaaDoor.Open Go.Proofs.YtddmlhcjbifkoaaDoorW.PrintWords
open Go.ChangeMaps (open_string shut_string)
set_option linter.unusedVariables false
theorem own : ownKnob Tryd.prog.godebug = none := by kernel_rfl
theorem laidOut : laidOutB Tryd.prog = true := by kernel_rfl
theorem door_met (os : Os) (args : Array Value) : laidMetH Tryd.prog Rows.itemSortsRow.laid ((World.doorLaid Tryd.prog 1000 os).forCall (fun _ _ => 0) ⟨#[], args, []⟩).memory :=
  laidMetH_of_parts3 (fuel := 8) (laidMet_of_run' 8 (by kernel_rfl) (by kernel_rfl)) (by kernel_rfl) (by kernel_rfl)
set_option maxRecDepth 100000 in
theorem lifted (os : Os) (started : os.Started) (H : Type) (enc : TypeId × Value → H) :
    ReturnsInHanded {} Tryd.checked os 15 .any (fun w args => (Rows.itemSortsSpec.pre enc Tryd.prog Tryd.f15 [] false w args ∧ laidMetH Tryd.prog Rows.itemSortsRow.laid w) ∧ sizedMet enc Tryd.prog Tryd.f15 (OpenSpec.ofChange Rows.itemSortsSpec) false w args) (Rows.itemSortsSpec.post enc Tryd.prog Tryd.f15 false true false false) := by
  refine Go.Proofs.YtddmlhcjbifkoaaDoor.WrapS.returnsInHanded_of_change_and_shaped (C := Tryd.checked) (X := fun w _ => laidMetH Tryd.prog Rows.itemSortsRow.laid w) (fun _ _ _ hh h => h.of_heap hh) own started (by kernel_rfl) Tryd.func15
    (ChangeSpec.witness_shaped (enc := enc) (C := Tryd.checked) (os := os) (X := fun w _ => laidMetH Tryd.prog Rows.itemSortsRow.laid w) false (World.doorLaid Tryd.prog 1000 os) #[.slice none 0 0] 8 rfl (World.shaped_of_RefB (by kernel_rfl) (by kernel_rfl)) (by kernel_rfl) (by kernel_rfl) (by kernel_rfl) (door_met os _)) ?_
  intro W base args ds gs before hval0 hW hcnd hsz0 hL hsh _
  have laid := Item.of_laid hL hsh
  have hsz : (DataW.weightsEach Tryd.prog (Tryd.f15.params.toList ++ Rows.itemSortsSpec.plain.varTypes Tryd.prog) (ds ++ gs)).all (· ≤ reachBytes) = true := hsz0
  have hval : ∀ (j : Nat) t v, Tryd.f15.params[j]? = some t → args[j]? = some v → Value.okWide Tryd.prog W .any base t v := hval0
  have hW' := hW
  obtain ⟨p, q, hA0, hV, rfl, hfz, hnd⟩ := hW
  have hA : DataW.TrodAll enc Tryd.prog W 0 (fun _ => true) true Tryd.f15.params.toList args.toList ds p := hA0
  rw [Tryd.params15] at hA hval hsz
  obtain ⟨v0, vs0, d0, ds0, p0, q0, hargs, rfl, rfl, h0, r0⟩ := trodAll_cons hA
  obtain ⟨rfl, rfl, rfl⟩ := trodAll_nil r0
  obtain rfl : args = #[v0] := by cases args; simp_all
  obtain ⟨rfl, rfl⟩ := trodVars_none hV
  obtain ⟨a0, len0, cap0, rfl⟩ := okWide_slice Tryd.underlying63 (hval 0 63 v0 rfl rfl)
  have k0 := h0
  have lt0 : ∀ x ∈ p0, x.block < W.heap.size := by obtain ⟨m, hm⟩ := k0; exact DataW.trod_lt m _ _ _ hm
  obtain ⟨z0, c0, l0, y0⟩ := open_arg (d := Kd.pair (Kd.int .i64) (Kd.int .i64)) Tryd.underlying63 (fits_struct2 Tryd.underlying41 (by kernel_rfl) rfl (by kernel_rfl) (fits_int Tryd.underlying3 (by kernel_rfl)) (fits_int Tryd.underlying3 (by kernel_rfl))) h0
  clear hA0 hval0 hsz0 hsz
  refine (Sort.row_sorts a0 len0 cap0 z0 W c0 l0 y0 laid).mono fun e W' ⟨he, bel⟩ => ?_
  subst he
  exact ⟨_, rfl, _, _, _, [], _, [], hW', trodAll_mk1 (shut_bool Tryd.underlying4 _), (trodAll_cons_mk (Below.trod laidOut (by kernel_rfl) (of_decide_eq_true (by kernel_rfl)) k0 bel lt0) trodAll_mk0), rfl, bel.frame _, fun h => by cases h⟩
theorem over : Rows.itemSortsRow.holds Tryd.pinned (OpenSpec.ofChange Rows.itemSortsSpec) :=
  OpenClaim.holds_of_wide 15 Tryd.f15 rfl rfl rfl rfl rfl rfl rfl ⟨rfl, rfl, rfl, rfl, rfl⟩ rfl rfl rfl rfl rfl (by kernel_rfl) Tryd.func15 (by kernel_rfl)
    (of_decide_eq_true (by kernel_rfl)) (by unfold Func.isWrapper; first | (rw [if_pos (by decide +kernel)]; kernel_rfl) | (rw [if_neg (by decide +kernel)]; exact ⟨rfl, rfl⟩))
    (fun os started H enc _ => lifted os started H enc)
theorem proved : Rows.ItemSortsCardSaid :=
  Claim7.holds_tied_plain_at .later [] [.data, .data, .data, .sentinel, .sentinel] true (true, "a96a5bc2e3d0c9936ed5ed5a3bb4f1441262aefa383f8474687b1c5ff43fc212") true
    over (fun _ h => by cases h) (by kernel_rfl) (fun _ h => by cases h) itemSorts_row_tie rfl ⟨rfl, rfl⟩ (by kernel_rfl) rfl
    (fun f fn hf hfn => by
      obtain rfl : f = 15 := Option.some.inj ((show Tryd.prog.funcNamed "whilom/whilomlaw02.ItemSorts" = some 15 by kernel_rfl).symm.trans hf) |>.symm
      obtain rfl : fn = Tryd.f15 := (Option.some.inj (Tryd.func15.symm.trans hfn)).symm
      exact ⟨by kernel_rfl, fun j t ht => by
        rw [Tryd.params15] at ht
        rcases j with _ | j
        · obtain rfl : t = 63 := by simpa using ht.symm
          exact (show Tryd.prog.wantsStandIn 63 = false by kernel_rfl)
        simp at ht⟩)
    (by kernel_rfl)
#print axioms proved
end Go.Proofs.YtddmlhcjbifkoaaDoor.rowItemSorts
namespace Go.Proofs.YtddmlhcjbifkoaaDoor
/-- The card, under a short name, for the claim. -/
theorem itemSorts_holds : Rows.ItemSortsCardSaid := rowItemSorts.proved
end Go.Proofs.YtddmlhcjbifkoaaDoor
