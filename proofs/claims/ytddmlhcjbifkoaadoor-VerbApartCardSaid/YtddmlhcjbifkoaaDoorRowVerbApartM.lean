/- The row of the law VerbApart, over its walk: whatever the input, the law's function answers true and leaves its input as it was. No conditions. -/
import Derived.Test.YtddmlhcjbifkoaaDoorRows
import Derived.Test.YtddmlhcjbifkoaaDoorWrapS
import Derived.Test.YtddmlhcjbifkoaaDoorCards
import Derived.Test.YtddmlhcjbifkoaaDoorTie
import Derived.LaidMore
import Derived.SevenTiedAt
import Derived.Stop.Joined
import Derived.Test.YtddmlhcjbifkoaaDoorVl
import Derived.Test.YtddmlhcjbifkoaaDoorOpen3
import Derived.WalkKit
import Derived.ProofKit
import Derived.OpenShut
import Derived.ShutString
import Derived.ChangeOld
import Derived.Below
import Derived.SizedLaws
namespace Go.Proofs.YtddmlhcjbifkoaaDoor.rowVerbApart
open Go.ChangeShapes Go.WideShapes Go.ChangeAt Go.RowKit Go.Proofs.YtddmlhcjbifkoaaDoor.Open Go.Proofs.YtddmlhcjbifkoaaDoorW.PrintWords
open Go.ChangeMaps (open_string shut_string)
set_option linter.unusedVariables false
theorem own : ownKnob Tryd.prog.godebug = none := by kernel_rfl
theorem laidOut : laidOutB Tryd.prog = true := by kernel_rfl
theorem door_met (os : Os) (args : Array Value) : laidMetH Tryd.prog Rows.verbApartRow.laid ((World.doorLaid Tryd.prog 1000 os).forCall (fun _ _ => 0) ⟨#[], args, []⟩).memory :=
  laidMetH_of_parts3 (fuel := 8) (laidMet_of_run' 8 (by kernel_rfl) (by kernel_rfl)) (by kernel_rfl) (by kernel_rfl)
set_option maxRecDepth 100000 in
theorem lifted (os : Os) (started : os.Started) (H : Type) (enc : TypeId × Value → H) :
    ReturnsInHanded {} Tryd.checked os 14 .any (fun w args => (Rows.verbApartSpec.pre enc Tryd.prog Tryd.f14 [] false w args ∧ laidMetH Tryd.prog Rows.verbApartRow.laid w) ∧ sizedMet enc Tryd.prog Tryd.f14 (OpenSpec.ofChange Rows.verbApartSpec) false w args) (Rows.verbApartSpec.post enc Tryd.prog Tryd.f14 false true false false) := by
  refine Go.Proofs.YtddmlhcjbifkoaaDoor.WrapS.returnsInHanded_of_change_and_shaped (C := Tryd.checked) (X := fun w _ => laidMetH Tryd.prog Rows.verbApartRow.laid w) (fun _ _ _ hh h => h.of_heap hh) own started (by kernel_rfl) Tryd.func14
    (ChangeSpec.witness_shaped (enc := enc) (C := Tryd.checked) (os := os) (X := fun w _ => laidMetH Tryd.prog Rows.verbApartRow.laid w) false (World.doorLaid Tryd.prog 1000 os) #[.agg #[.int .i64 0, .int .i64 0, .int .i64 0, .int .i64 0, .int .i64 0], .agg #[.int .i64 0, .int .i64 0, .int .i64 0, .int .i64 0, .int .i64 0]] 8 rfl (World.shaped_of_RefB (by kernel_rfl) (by kernel_rfl)) (by kernel_rfl) (by kernel_rfl) (by kernel_rfl) (door_met os _)) ?_
  intro W base args ds gs before hval0 hW hcnd hsz0 hL hsh _
  have laid := Verb.of_laidV hL hsh
  have hsz : (DataW.weightsEach Tryd.prog (Tryd.f14.params.toList ++ Rows.verbApartSpec.plain.varTypes Tryd.prog) (ds ++ gs)).all (· ≤ reachBytes) = true := hsz0
  have hval : ∀ (j : Nat) t v, Tryd.f14.params[j]? = some t → args[j]? = some v → Value.okWide Tryd.prog W .any base t v := hval0
  have hW' := hW
  obtain ⟨p, q, hA0, hV, rfl, hfz, hnd⟩ := hW
  have hA : DataW.TrodAll enc Tryd.prog W 0 (fun _ => true) true Tryd.f14.params.toList args.toList ds p := hA0
  rw [Tryd.params14] at hA hval hsz
  obtain ⟨v0, vs0, d0, ds0, p0, q0, hargs, rfl, rfl, h0, r0⟩ := trodAll_cons hA
  obtain ⟨v1, vs1, d1, ds1, p1, q1, rfl, rfl, rfl, h1, r1⟩ := trodAll_cons r0
  obtain ⟨rfl, rfl, rfl⟩ := trodAll_nil r1
  obtain rfl : args = #[v0, v1] := by cases args; simp_all
  obtain ⟨rfl, rfl⟩ := trodVars_none hV
  obtain ⟨b0, rfl, _⟩ := okWide_struct Tryd.underlying52 (hval 0 52 v0 rfl rfl)
  have k0 := h0
  have lt0 : ∀ x ∈ p0, x.block < W.heap.size := by obtain ⟨m, hm⟩ := k0; exact DataW.trod_lt m _ _ _ hm
  obtain ⟨z0, c0, y0⟩ := open_agg (d := Verb.SaidK) (fits_struct4 Tryd.underlying52 (by kernel_rfl) rfl (by kernel_rfl) (by kernel_rfl) (by kernel_rfl) (fits_int Tryd.underlying3 (by kernel_rfl)) (fits_struct2 Tryd.underlying50 (by kernel_rfl) rfl (by kernel_rfl) (fits_int Tryd.underlying3 (by kernel_rfl)) (fits_int Tryd.underlying3 (by kernel_rfl))) (fits_int Tryd.underlying3 (by kernel_rfl)) (fits_int Tryd.underlying3 (by kernel_rfl))) h0
  obtain ⟨rest0, e0⟩ := Verb.cellsZ z0 c0
  obtain rfl : b0 = #[.int .i64 z0.1, .int .i64 z0.2.1.1, .int .i64 z0.2.1.2, .int .i64 z0.2.2.1, .int .i64 z0.2.2.2] := arr_of_list e0
  obtain ⟨b1, rfl, _⟩ := okWide_struct Tryd.underlying52 (hval 1 52 v1 rfl rfl)
  have k1 := h1
  have lt1 : ∀ x ∈ p1, x.block < W.heap.size := by obtain ⟨m, hm⟩ := k1; exact DataW.trod_lt m _ _ _ hm
  obtain ⟨z1, c1, y1⟩ := open_agg (d := Verb.SaidK) (fits_struct4 Tryd.underlying52 (by kernel_rfl) rfl (by kernel_rfl) (by kernel_rfl) (by kernel_rfl) (fits_int Tryd.underlying3 (by kernel_rfl)) (fits_struct2 Tryd.underlying50 (by kernel_rfl) rfl (by kernel_rfl) (fits_int Tryd.underlying3 (by kernel_rfl)) (fits_int Tryd.underlying3 (by kernel_rfl))) (fits_int Tryd.underlying3 (by kernel_rfl)) (fits_int Tryd.underlying3 (by kernel_rfl))) h1
  obtain ⟨rest1, e1⟩ := Verb.cellsZ z1 c1
  obtain rfl : b1 = #[.int .i64 z1.1, .int .i64 z1.2.1.1, .int .i64 z1.2.1.2, .int .i64 z1.2.2.1, .int .i64 z1.2.2.2] := arr_of_list e1
  clear hA0 hval0 hsz0 hsz
  refine (Verb.row_verbApart z0 z1 W rest0 y0 rest1 y1 laid).mono fun e W' ⟨he, bel⟩ => ?_
  subst he
  exact ⟨_, rfl, _, _, _, [], _, [], hW', trodAll_mk1 (shut_bool Tryd.underlying4 _), (trodAll_cons_mk (Below.trod laidOut (by kernel_rfl) (of_decide_eq_true (by kernel_rfl)) k0 bel lt0) (trodAll_cons_mk (Below.trod laidOut (by kernel_rfl) (of_decide_eq_true (by kernel_rfl)) k1 bel lt1) trodAll_mk0)), rfl, bel.frame _, fun h => by cases h⟩
theorem over : Rows.verbApartRow.holds Tryd.pinned (OpenSpec.ofChange Rows.verbApartSpec) :=
  OpenClaim.holds_of_wide 14 Tryd.f14 rfl rfl rfl rfl rfl rfl rfl ⟨rfl, rfl, rfl, rfl, rfl⟩ rfl rfl rfl rfl rfl (by kernel_rfl) Tryd.func14 (by kernel_rfl)
    (of_decide_eq_true (by kernel_rfl)) (by unfold Func.isWrapper; first | (rw [if_pos (by decide +kernel)]; kernel_rfl) | (rw [if_neg (by decide +kernel)]; exact ⟨rfl, rfl⟩))
    (fun os started H enc _ => lifted os started H enc)
theorem proved : Rows.VerbApartCardSaid :=
  Claim7.holds_tied_plain_at .later [] [.data, .data, .data, .sentinel, .sentinel, .data] true (true, "a96a5bc2e3d0c9936ed5ed5a3bb4f1441262aefa383f8474687b1c5ff43fc212") true
    over (fun _ h => by cases h) (by kernel_rfl) (fun _ h => by cases h) verbApart_row_tie rfl ⟨rfl, rfl⟩ (by kernel_rfl) rfl
    (fun f fn hf hfn => by
      obtain rfl : f = 14 := Option.some.inj ((show Tryd.prog.funcNamed "whilom/whilomlaw21.VerbApart" = some 14 by kernel_rfl).symm.trans hf) |>.symm
      obtain rfl : fn = Tryd.f14 := (Option.some.inj (Tryd.func14.symm.trans hfn)).symm
      exact ⟨by kernel_rfl, fun j t ht => by
        rw [Tryd.params14] at ht
        rcases j with _ | j
        · obtain rfl : t = 52 := by simpa using ht.symm
          exact (show Tryd.prog.wantsStandIn 52 = false by kernel_rfl)
        rcases j with _ | j
        · obtain rfl : t = 52 := by simpa using ht.symm
          exact (show Tryd.prog.wantsStandIn 52 = false by kernel_rfl)
        simp at ht⟩)
    (by kernel_rfl)
#print axioms proved
end Go.Proofs.YtddmlhcjbifkoaaDoor.rowVerbApart
namespace Go.Proofs.YtddmlhcjbifkoaaDoor
/-- The card, under a short name, for the claim. -/
theorem verbApart_holds : Rows.VerbApartCardSaid := rowVerbApart.proved
end Go.Proofs.YtddmlhcjbifkoaaDoor
