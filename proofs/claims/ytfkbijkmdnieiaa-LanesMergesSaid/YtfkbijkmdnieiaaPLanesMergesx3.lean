-- PRINTED BY print.sh 35421559b90ae4d0a3588c463048766b98c2df88dd9212a6774a882060cdf62d: not written by this session
import Derived.Test.YtfkbijkmdnieiaaPLanesMergesx0
import Derived.Test.YtfkbijkmdnieiaaPLanesMergesx1
import Derived.Test.YtfkbijkmdnieiaaPLanesMergesx2
namespace Go.Proofs.Ytfkbijkmdnieiaa.PLanesMerges
open Go.RowKit Go.Proofs.YtfkbijkmdnieiaaW.PrintWords Go.Proofs.YtfkbijkmdnieiaaW.PrintLast Go.Proofs.YtfkbijkmdnieiaaW.PrintMore
attribute [local go_sem] max2_int min2_int max_two min_two max_three min_three max_four min_four   -- for this text's walks alone
set_option linter.unusedVariables false
set_option linter.unusedSimpArgs false

/-! ### whilomlaw27_LanesMerges: function 5 -/
def whilomlaw27_LanesMerges.j0 : Nat → List (List ByteArray) → Bool → Option (Bool)
  | 0, _, _ => none
  | k + 1, x0, x41 => if x41 = true then (some false) else ((whilomlaw27_small.f k x0).bind fun t149 => (if t149 = true then ((lanes_Merge.f k x0).bind fun bt150 => ((whilomref27_Merge.f k x0).bind fun bt156 => ((whilomref20_Same.f k bt150.1 bt156.1).bind fun t162 => (if t162 = true then ((whilomref01_Ints.f k bt150.2 bt156.2).bind fun t163 => (some t163)) else (some false))))) else (some true)))
def whilomlaw27_LanesMerges.f (k : Nat) (l0 : List (List ByteArray)) : Option (Bool) := (lanes_Merge.f k (([(([(⟨#[120]⟩ : ByteArray), (⟨#[121]⟩ : ByteArray)] : List ByteArray)), (([(⟨#[122]⟩ : ByteArray)] : List ByteArray))] : List (List ByteArray)))).bind fun bt140 => (if (bt140.1.length : Int) = 3 then (if (bt140.2.length : Int) = 3 then (if 1 < (bt140.1.length : Int) then (if (rdOf ByteArray.empty bt140.1 1).toList = ([122] : List UInt8) then (if 1 < (bt140.2.length : Int) then (if (rd bt140.2 1) = 1 then (if 2 < (bt140.1.length : Int) then (whilomlaw27_LanesMerges.j0 k l0 ((rdOf ByteArray.empty bt140.1 2).toList != ([121] : List UInt8))) else (none)) else (whilomlaw27_LanesMerges.j0 k l0 true)) else (none)) else (whilomlaw27_LanesMerges.j0 k l0 true)) else (none)) else (whilomlaw27_LanesMerges.j0 k l0 true)) else (whilomlaw27_LanesMerges.j0 k l0 true))
theorem whilomlaw27_LanesMerges.mono_l : ∀ k, (∀ y0 y1, LeO (whilomlaw27_LanesMerges.j0 k y0 y1) (whilomlaw27_LanesMerges.j0 (k + 1) y0 y1))
  | 0 => fun _ _ r h => by simp [whilomlaw27_LanesMerges.j0] at h
  | k + 1 => by
    have ih0 := whilomlaw27_LanesMerges.mono_l k
    · intro y0 y1
      unfold whilomlaw27_LanesMerges.j0
      repeat' first
      | (with_reducible exact ih0 _ _)
      | (with_reducible exact lanes_Merge.mono _ _)
      | (with_reducible exact whilomlaw27_small.mono _ _)
      | (with_reducible exact whilomref01_Ints.mono _ _ _)
      | (with_reducible exact whilomref20_Same.mono _ _ _)
      | (with_reducible exact whilomref27_Merge.mono _ _)
      | (with_reducible exact LeO.refl _)
      | (with_reducible exact LeO.none _)
      | (with_reducible refine LeO.ite ?_ ?_)
      | (with_reducible refine LeO.bind ?_ (fun _ => ?_))
      | exact ih0 _ _
      | exact lanes_Merge.mono _ _
      | exact whilomlaw27_small.mono _ _
      | exact whilomref01_Ints.mono _ _ _
      | exact whilomref20_Same.mono _ _ _
      | exact whilomref27_Merge.mono _ _
      | exact LeO.none _
      | refine LeO.ite ?_ ?_
      | refine LeO.bind ?_ (fun _ => ?_)
theorem whilomlaw27_LanesMerges.mono : ∀ a0 k, LeO (whilomlaw27_LanesMerges.f k a0) (whilomlaw27_LanesMerges.f (k + 1) a0) := by
  intro a0 k
  have ih0 := whilomlaw27_LanesMerges.mono_l k
  unfold whilomlaw27_LanesMerges.f
  repeat' first
      | (with_reducible exact ih0 _ _)
      | (with_reducible exact lanes_Merge.mono _ _)
      | (with_reducible exact whilomlaw27_small.mono _ _)
      | (with_reducible exact whilomref01_Ints.mono _ _ _)
      | (with_reducible exact whilomref20_Same.mono _ _ _)
      | (with_reducible exact whilomref27_Merge.mono _ _)
      | (with_reducible exact LeO.refl _)
      | (with_reducible exact LeO.none _)
      | (with_reducible refine LeO.ite ?_ ?_)
      | (with_reducible refine LeO.bind ?_ (fun _ => ?_))
      | exact ih0 _ _
      | exact lanes_Merge.mono _ _
      | exact whilomlaw27_small.mono _ _
      | exact whilomref01_Ints.mono _ _ _
      | exact whilomref20_Same.mono _ _ _
      | exact whilomref27_Merge.mono _ _
      | exact LeO.none _
      | refine LeO.ite ?_ ?_
      | refine LeO.bind ?_ (fun _ => ?_)
set_option maxHeartbeats 8000000 in
set_option maxRecDepth 100000 in
theorem whilomlaw27_LanesMerges.calls (k : Nat) (A0 : Option Addr) (c0 : Nat) (l0 : List (List ByteArray)) (r : Bool) (w : World) (hr0 : Kd.C (Kd.slice 9 Kd.string) w A0 l0.length l0) (hc0 : l0.length ≤ c0) (h : whilomlaw27_LanesMerges.f k l0 = some r) :
    Calls Try.prog 5 #[.slice A0 l0.length c0] w fun e w' => e = .returned (.bool r) ∧ Below w.heap.size w w' := by
  have HR0 := Aside0.mk hr0
  have HC0 := Aside0.mk hc0
  clear hr0 hc0
  have HB := Aside0.mk (Below.refl w.heap.size w)
  have H : ((lanes_Merge.f k (([(([(⟨#[120]⟩ : ByteArray), (⟨#[121]⟩ : ByteArray)] : List ByteArray)), (([(⟨#[122]⟩ : ByteArray)] : List ByteArray))] : List (List ByteArray)))).bind fun bt140 => (if (bt140.1.length : Int) = 3 then (if (bt140.2.length : Int) = 3 then (if 1 < (bt140.1.length : Int) then (if (rdOf ByteArray.empty bt140.1 1).toList = ([122] : List UInt8) then (if 1 < (bt140.2.length : Int) then (if (rd bt140.2 1) = 1 then (if 2 < (bt140.1.length : Int) then (whilomlaw27_LanesMerges.j0 k l0 ((rdOf ByteArray.empty bt140.1 2).toList != ([121] : List UInt8))) else (none)) else (whilomlaw27_LanesMerges.j0 k l0 true)) else (none)) else (whilomlaw27_LanesMerges.j0 k l0 true)) else (none)) else (whilomlaw27_LanesMerges.j0 k l0 true)) else (whilomlaw27_LanesMerges.j0 k l0 true))) = some r := h
  clear h
  obtain ⟨y131, hy131⟩ : ∃ y_ : List ByteArray, y_ = (([(⟨#[120]⟩ : ByteArray), (⟨#[121]⟩ : ByteArray)] : List ByteArray)) := ⟨_, rfl⟩
  replace H : ((lanes_Merge.f k (([y131, (([(⟨#[122]⟩ : ByteArray)] : List ByteArray))] : List (List ByteArray)))).bind fun bt140 => (if (bt140.1.length : Int) = 3 then (if (bt140.2.length : Int) = 3 then (if 1 < (bt140.1.length : Int) then (if (rdOf ByteArray.empty bt140.1 1).toList = ([122] : List UInt8) then (if 1 < (bt140.2.length : Int) then (if (rd bt140.2 1) = 1 then (if 2 < (bt140.1.length : Int) then (whilomlaw27_LanesMerges.j0 k l0 ((rdOf ByteArray.empty bt140.1 2).toList != ([121] : List UInt8))) else (none)) else (whilomlaw27_LanesMerges.j0 k l0 true)) else (none)) else (whilomlaw27_LanesMerges.j0 k l0 true)) else (none)) else (whilomlaw27_LanesMerges.j0 k l0 true)) else (whilomlaw27_LanesMerges.j0 k l0 true))) = some r := by first | (rw [hy131]; with_reducible exact H) | (have H2_ := (Option.bind_some _ _).symm.trans H; rw [hy131]; with_reducible exact H2_) | (have H2_ := (Option.bind_some _ _).symm.trans H; with_reducible exact H2_) | with_reducible exact H | (rw [hy131]; exact H) | exact H
  have Ny131 := Aside0.mk hy131
  clear hy131
  obtain ⟨y134, hy134⟩ : ∃ y_ : List ByteArray, y_ = (([(⟨#[122]⟩ : ByteArray)] : List ByteArray)) := ⟨_, rfl⟩
  replace H : ((lanes_Merge.f k (([y131, y134] : List (List ByteArray)))).bind fun bt140 => (if (bt140.1.length : Int) = 3 then (if (bt140.2.length : Int) = 3 then (if 1 < (bt140.1.length : Int) then (if (rdOf ByteArray.empty bt140.1 1).toList = ([122] : List UInt8) then (if 1 < (bt140.2.length : Int) then (if (rd bt140.2 1) = 1 then (if 2 < (bt140.1.length : Int) then (whilomlaw27_LanesMerges.j0 k l0 ((rdOf ByteArray.empty bt140.1 2).toList != ([121] : List UInt8))) else (none)) else (whilomlaw27_LanesMerges.j0 k l0 true)) else (none)) else (whilomlaw27_LanesMerges.j0 k l0 true)) else (none)) else (whilomlaw27_LanesMerges.j0 k l0 true)) else (whilomlaw27_LanesMerges.j0 k l0 true))) = some r := by first | (rw [hy134]; with_reducible exact H) | (have H2_ := (Option.bind_some _ _).symm.trans H; rw [hy134]; with_reducible exact H2_) | (have H2_ := (Option.bind_some _ _).symm.trans H; with_reducible exact H2_) | with_reducible exact H | (rw [hy134]; exact H) | exact H
  have Ny134 := Aside0.mk hy134
  clear hy134
  obtain ⟨y137, hy137⟩ : ∃ y_ : List (List ByteArray), y_ = (([y131, y134] : List (List ByteArray))) := ⟨_, rfl⟩
  replace H : ((lanes_Merge.f k y137).bind fun bt140 => (if (bt140.1.length : Int) = 3 then (if (bt140.2.length : Int) = 3 then (if 1 < (bt140.1.length : Int) then (if (rdOf ByteArray.empty bt140.1 1).toList = ([122] : List UInt8) then (if 1 < (bt140.2.length : Int) then (if (rd bt140.2 1) = 1 then (if 2 < (bt140.1.length : Int) then (whilomlaw27_LanesMerges.j0 k l0 ((rdOf ByteArray.empty bt140.1 2).toList != ([121] : List UInt8))) else (none)) else (whilomlaw27_LanesMerges.j0 k l0 true)) else (none)) else (whilomlaw27_LanesMerges.j0 k l0 true)) else (none)) else (whilomlaw27_LanesMerges.j0 k l0 true)) else (whilomlaw27_LanesMerges.j0 k l0 true))) = some r := by first | (rw [hy137]; with_reducible exact H) | (have H2_ := (Option.bind_some _ _).symm.trans H; rw [hy137]; with_reducible exact H2_) | (have H2_ := (Option.bind_some _ _).symm.trans H; with_reducible exact H2_) | with_reducible exact H | (rw [hy137]; exact H) | exact H
  have Ny137 := Aside0.mk hy137
  clear hy137
  replace H := Option.bind_eq_some_iff.mp H
  obtain ⟨⟨t140, t141⟩, A20, H⟩ := H
  replace H : (if (t140.length : Int) = 3 then (if (t141.length : Int) = 3 then (if 1 < (t140.length : Int) then (if (rdOf ByteArray.empty t140 1).toList = ([122] : List UInt8) then (if 1 < (t141.length : Int) then (if (rd t141 1) = 1 then (if 2 < (t140.length : Int) then (whilomlaw27_LanesMerges.j0 k l0 ((rdOf ByteArray.empty t140 2).toList != ([121] : List UInt8))) else (none)) else (whilomlaw27_LanesMerges.j0 k l0 true)) else (none)) else (whilomlaw27_LanesMerges.j0 k l0 true)) else (none)) else (whilomlaw27_LanesMerges.j0 k l0 true)) else (whilomlaw27_LanesMerges.j0 k l0 true)) = some r := H
  have A2 := Aside0.mk A20
  clear A20
  have HC3 := Aside0.mk H
  clear H
  go_enter Try.func5, Try.ntmps5
  go_upto_region 2 with (first | ((with_reducible refine gate_dst (N := 10) rfl ?_); (try (refine gate_guard (by rfl) ?_; dsimp only)); refine Kd.R_lit Kd.string _ 9 ?hg (N := 10) ?hd (xs := ([(⟨#[120]⟩ : ByteArray), (⟨#[121]⟩ : ByteArray)] : List ByteArray)) (inner := [.string (⟨#[120]⟩ : ByteArray), .string (⟨#[121]⟩ : ByteArray)]) (ok := fun _ => True) (okp := fun _ => True) ?hr ?hp (fun _ hk => hk) trivial (Below.refl _ _) (Nat.le_refl _) (by simp) ?_; (case hd => rfl); (case hg => rfl); (case hr => first | (go_simp; done) | (go_simp; rfl)); (case hp => exact (Reps.one (show Kd.M Kd.string _ _ _ (⟨#[120]⟩ : ByteArray) [.string (⟨#[120]⟩ : ByteArray)] from rfl) (Reps.one (show Kd.M Kd.string _ _ _ (⟨#[121]⟩ : ByteArray) [.string (⟨#[121]⟩ : ByteArray)] from rfl) (Reps.none _ _)))); intro v132 w4 ho5 hb hg_ hnew_; clear hg_ hnew_; (first | rw [← Ny131.out] at ho5 | (simp only [Int.reduceToNat] at ho5; rw [← Ny131.out] at ho5)); have n0_ := Aside0.mk (Kd.R_lower ho5 (below_size (by repeat (first | (with_reducible first | exact HB.out | apply below_alloc | apply pw_below_drewN | apply below_drew1) | exact HB.out)))); have n1_ := Aside0.mk (below_step (by repeat (first | (with_reducible first | exact HB.out | apply below_alloc | apply pw_below_drewN | apply below_drew1) | exact HB.out)) hb); clear HB; have HO133 := n0_; have HB := n1_; clear n0_ n1_; clear hb ho5) | ((with_reducible refine gate_dst (N := 11) rfl ?_); (try (refine gate_guard (by rfl) ?_; dsimp only)); refine Kd.R_lit Kd.string _ 9 ?hg (N := 11) ?hd (xs := ([(⟨#[122]⟩ : ByteArray)] : List ByteArray)) (inner := [.string (⟨#[122]⟩ : ByteArray)]) (ok := fun _ => True) (okp := fun _ => True) ?hr ?hp (fun _ hk => hk) trivial (Below.refl _ _) (Nat.le_refl _) (by simp) ?_; (case hd => rfl); (case hg => rfl); (case hr => first | (go_simp; done) | (go_simp; rfl)); (case hp => exact (Reps.one (show Kd.M Kd.string _ _ _ (⟨#[122]⟩ : ByteArray) [.string (⟨#[122]⟩ : ByteArray)] from rfl) (Reps.none _ _))); intro v135 w6 ho7 hb hg_ hnew_; clear hg_ hnew_; (first | rw [← Ny134.out] at ho7 | (simp only [Int.reduceToNat] at ho7; rw [← Ny134.out] at ho7)); have n0_ := Aside0.mk (Kd.R_elder' (by (with_reducible repeat (first | apply Kd.R_alloc | apply Kd.R_drewN | apply Kd.R_drew)); exact HO133.out) (Kd.R_base ho7) hb); have n1_ := Aside0.mk (Kd.R_lower (Kd.R_new' ho7 (Kd.R_lt (by (with_reducible repeat (first | apply Kd.R_alloc | apply Kd.R_drewN | apply Kd.R_drew)); exact HO133.out))) (below_size (by repeat (first | (with_reducible first | exact HB.out | apply below_alloc | apply pw_below_drewN | apply below_drew1) | exact HB.out)))); have n2_ := Aside0.mk (below_step (by repeat (first | (with_reducible first | exact HB.out | apply below_alloc | apply pw_below_drewN | apply below_drew1) | exact HB.out)) hb); clear HO133; clear HB; have HO133 := n0_; have HO136 := n1_; have HB := n2_; clear n0_ n1_ n2_; clear hb ho7; obtain ⟨Ao8, co8, eo8⟩ := Kd.R_slice HO133.out; subst eo8; obtain ⟨Ao9, co9, eo9⟩ := Kd.R_slice HO136.out; subst eo9) | ((with_reducible refine gate_dst (N := 12) rfl ?_); (try (refine gate_guard (by rfl) ?_; dsimp only)); refine Kd.N_lit (Kd.slice 9 Kd.string) _ 28 ?hg (N' := 12) ?hd (xs := ([y131, y134] : List (List ByteArray))) (inner := [.slice Ao8 y131.length co8, .slice Ao9 y134.length co9]) (ok := (fun _ => True)) (okp := (fun _ => True)) ?hr ?hp (fun _ hk => hk) ((show ∀ k_, w6.heap.size ≤ k_ → (fun _ => True) k_ from fun k_ hk => trivial) _ (Nat.le_refl _)) (Below.refl _ _) (Nat.le_refl _) (by simp) ?_; (case hd => rfl); (case hg => rfl); (case hr => first | (go_simp; done) | (go_simp; rfl)); (case hp => exact (Reps.one (show Kd.FK (Kd.slice 9 Kd.string) _ _ y131 [.slice Ao8 y131.length co8] from (Kd.FK_slice_mk (Kd.R_reads' (Kd.R_mono (ok' := (fun _ => True)) (HO133.out) (fun k_ hk => trivial))).2.1 (Kd.R_F (Kd.R_mono (ok' := (fun _ => True)) (HO133.out) (fun k_ hk => trivial))))) (Reps.one (show Kd.FK (Kd.slice 9 Kd.string) _ _ y134 [.slice Ao9 y134.length co9] from (Kd.FK_slice_mk (Kd.R_reads' (Kd.R_mono (ok' := (fun _ => True)) (HO136.out) (fun k_ hk => trivial))).2.1 (Kd.R_F (Kd.R_mono (ok' := (fun _ => True)) (HO136.out) (fun k_ hk => trivial))))) (Reps.none _ _)))); intro v138 w10 ho11 hb hg_ hnew_; clear hg_ hnew_; (first | rw [← Ny137.out] at ho11 | (simp only [Int.reduceToNat] at ho11; rw [← Ny137.out] at ho11)); have n0_ := Aside0.mk (Kd.N_lower ho11 (below_size (by repeat (first | (with_reducible first | exact HB.out | apply below_alloc | apply pw_below_drewN | apply below_drew1) | exact HB.out)))); have n1_ := Aside0.mk (below_step (by repeat (first | (with_reducible first | exact HB.out | apply below_alloc | apply pw_below_drewN | apply below_drew1) | exact HB.out)) hb); clear HB; clear HO133; clear HO136; have HO139 := n0_; have HB := n1_; clear n0_ n1_; clear hb ho11; obtain ⟨Ao12, co12, eo12⟩ := Kd.N_slice HO139.out; subst eo12) | ((with_reducible refine gate_callee (f := 23) rfl ?_); refine goesL_ (some 13) rfl rfl Try.func23 (by kernel_rfl) rfl #[.slice Ao12 y137.length co12] rfl (by (try simp only [List.map_toArray, List.map_cons, List.map_nil]); first | done | rfl | (simp only [List.length_drop, List.length_take]; rfl)) ?_; (with_reducible refine (lanes_Merge.calls k _ _ y137 t140 t141 _ ?side1 ?side2 A2.out).mono ?_); (case side1 => repeat (first | exact (Kd.N_reads' HO139.out).2.2 | (with_reducible refine Kd.C_alloc ?_ _) | (with_reducible refine Kd.C_drewN ?_ _) | (with_reducible refine Kd.C_drew ?_))); (case side2 => exact (Kd.N_reads' HO139.out).2.1); rintro e w13 ⟨v142, v144, rfl, ho0, ho1, hb⟩; refine ⟨_, rfl, ?_⟩; have n0_ := Aside0.mk (Kd.N_mono (Kd.N_told (Kd.N_told (Kd.N_old (by (with_reducible repeat (first | apply Kd.N_alloc | apply Kd.N_drewN | apply Kd.N_drew)); exact HO139.out) hb) (Kd.R_base ho0)) (Kd.R_base ho1)) (fun _ h_ => h_.1)); have n1_ := Aside0.mk (Kd.R_lower ho0 (below_size (by repeat (first | (with_reducible first | exact HB.out | apply below_alloc | apply pw_below_drewN | apply below_drew1) | exact HB.out)))); have n2_ := Aside0.mk (Kd.R_lower ho1 (below_size (by repeat (first | (with_reducible first | exact HB.out | apply below_alloc | apply pw_below_drewN | apply below_drew1) | exact HB.out)))); have n3_ := Aside0.mk (below_step (by repeat (first | (with_reducible first | exact HB.out | apply below_alloc | apply pw_below_drewN | apply below_drew1) | exact HB.out)) hb); clear HO139; clear HB; have HO139 := n0_; have HO143 := n1_; have HO145 := n2_; have HB := n3_; clear n0_ n1_ n2_ n3_; (try clear hb); (try clear hb2); (try clear hk); (try clear hi); (try clear ho0); (try clear ho1)))
  (try simp only [Act.put, List.setIfInBounds_toArray, List.set_cons_zero, List.set_cons_succ])
  go_cut [41] (fun v41 wc => ∃ (kq : Nat) (x41_2 : Bool), v41 = .bool x41_2 ∧ Aside0 (whilomlaw27_LanesMerges.j0 kq l0 x41_2 = some r) ∧ Aside0 (kq ≤ k) ∧ Aside0 (Below w.heap.size w wc))
  case first =>
    have H := HC3.out
    clear HC3
    by_cases c14 : (t140.length : Int) = 3
    · rw [if_pos c14] at H
      have c14b0 : ((t140.length : Int) == 3) = true := beq_iff_eq.mpr c14
      have c14b1 : ((t140.length : Int) != 3) = false := bne_eq_false_iff_eq.mpr c14
      clear c14
      (first | rw [c14b0] | (simp only [i64_w, i32_w]; rw [c14b0]) | skip)
      by_cases c15 : (t141.length : Int) = 3
      · rw [if_pos c15] at H
        have c15b0 : ((t141.length : Int) == 3) = true := beq_iff_eq.mpr c15
        have c15b1 : ((t141.length : Int) != 3) = false := bne_eq_false_iff_eq.mpr c15
        clear c15
        by_cases c16 : 1 < (t140.length : Int)
        · rw [if_pos c16] at H
          have c16b0 : decide (1 < (t140.length : Int)) = true := decide_eq_true c16
          have c16b1 : decide (1 < t140.length) = true := decide_eq_true (by omega)
          clear c16
          by_cases c17 : (rdOf ByteArray.empty t140 1).toList = ([122] : List UInt8)
          · rw [if_pos c17] at H
            have c17b0 : ((rdOf ByteArray.empty t140 1).toList == ([122] : List UInt8)) = true := beq_iff_eq.mpr c17
            have c17b1 : ((rdOf ByteArray.empty t140 1).toList != ([122] : List UInt8)) = false := bne_eq_false_iff_eq.mpr c17
            clear c17
            by_cases c18 : 1 < (t141.length : Int)
            · rw [if_pos c18] at H
              have c18b0 : decide (1 < (t141.length : Int)) = true := decide_eq_true c18
              have c18b1 : decide (1 < t141.length) = true := decide_eq_true (by omega)
              clear c18
              by_cases c19 : (rd t141 1) = 1
              · rw [if_pos c19] at H
                have c19b0 : ((rd t141 1) == 1) = true := beq_iff_eq.mpr c19
                have c19b1 : ((rd t141 1) != 1) = false := bne_eq_false_iff_eq.mpr c19
                clear c19
                by_cases c20 : 2 < (t140.length : Int)
                · rw [if_pos c20] at H
                  have c20b0 : decide (2 < (t140.length : Int)) = true := decide_eq_true c20
                  have c20b1 : decide (2 < t140.length) = true := decide_eq_true (by omega)
                  clear c20
                  have H' := Aside0.mk H
                  clear H
                  obtain ⟨Ao21, co21, eo21⟩ := Kd.R_slice HO143.out
                  subst eo21
                  obtain ⟨Ao22, co22, eo22⟩ := Kd.R_slice HO145.out
                  subst eo22
                  have p146 : 0 ≤ (1 : Int) := (by omega)
                  have q146 : 1 < (t140.length : Int) := of_decide_eq_true (by first | (with_reducible assumption) | assumption)
                  obtain ⟨ad146, e146, hx146_0⟩ := Kd.at_string (Kd.R_reads' HO143.out).2.2 1 p146 q146
                  cases e146
                  (try simp only [show (1 : Int).toNat = 1 from rfl, Nat.reduceMul, Nat.reduceEqDiff, Go.Addr.add, ↓reduceIte] at hx146_0)
                  have qi146 : (1 < t140.length) = True := eq_true (by omega)
                  (try rw [show ((1 : Int)).toNat = 1 from rfl] at hx146_0)
                  replace p146 := eq_true p146
                  replace q146 := eq_true q146
                  have p147 : 0 ≤ (1 : Int) := (by omega)
                  have q147 : 1 < (t141.length : Int) := of_decide_eq_true (by first | (with_reducible assumption) | assumption)
                  obtain ⟨ad147, e147, hx147_0⟩ := Kd.at_int (Kd.R_reads' HO145.out).2.2 1 p147 q147
                  cases e147
                  (try simp only [show (1 : Int).toNat = 1 from rfl, Nat.reduceMul, Nat.reduceEqDiff, Go.Addr.add, ↓reduceIte] at hx147_0)
                  have qi147 : (1 < t141.length) = True := eq_true (by omega)
                  (try rw [show ((1 : Int)).toNat = 1 from rfl] at hx147_0)
                  replace p147 := eq_true p147
                  replace q147 := eq_true q147
                  have p148 : 0 ≤ (2 : Int) := (by omega)
                  have q148 : 2 < (t140.length : Int) := of_decide_eq_true (by first | (with_reducible assumption) | assumption)
                  obtain ⟨ad148, e148, hx148_0⟩ := Kd.at_string (Kd.R_reads' HO143.out).2.2 2 p148 q148
                  obtain rfl : ad146 = ad148 := (by injection e148)
                  (try simp only [show (2 : Int).toNat = 2 from rfl, Nat.reduceMul, Nat.reduceEqDiff, Go.Addr.add, ↓reduceIte] at hx148_0)
                  have qi148 : (2 < t140.length) = True := eq_true (by omega)
                  (try rw [show ((2 : Int)).toNat = 2 from rfl] at hx148_0)
                  replace p148 := eq_true p148
                  replace q148 := eq_true q148
                  go_wp2
                  go_meet
                  case rel => exact ⟨_, (((rdOf ByteArray.empty t140 2).toList != ([121] : List UInt8))), (by first | rfl | (simp; done) | (simp [*]; done)), H', ⟨by first | omega | exact Nat.le_refl _⟩, ⟨by repeat (first | (with_reducible first | exact HB.out | apply below_alloc | apply pw_below_drewN | apply below_drew1) | exact HB.out)⟩⟩
                · rw [if_neg c20] at H
                  exact absurd H (by simp)
              · rw [if_neg c19] at H
                have c19b0 : ((rd t141 1) == 1) = false := beq_eq_false_iff_ne.mpr c19
                have c19b1 : ((rd t141 1) != 1) = true := bne_iff_ne.mpr c19
                have H' := Aside0.mk H
                clear H
                obtain ⟨Ao23, co23, eo23⟩ := Kd.R_slice HO143.out
                subst eo23
                obtain ⟨Ao24, co24, eo24⟩ := Kd.R_slice HO145.out
                subst eo24
                have p146 : 0 ≤ (1 : Int) := (by omega)
                have q146 : 1 < (t140.length : Int) := of_decide_eq_true (by first | (with_reducible assumption) | assumption)
                obtain ⟨ad146, e146, hx146_0⟩ := Kd.at_string (Kd.R_reads' HO143.out).2.2 1 p146 q146
                cases e146
                (try simp only [show (1 : Int).toNat = 1 from rfl, Nat.reduceMul, Nat.reduceEqDiff, Go.Addr.add, ↓reduceIte] at hx146_0)
                have qi146 : (1 < t140.length) = True := eq_true (by omega)
                (try rw [show ((1 : Int)).toNat = 1 from rfl] at hx146_0)
                replace p146 := eq_true p146
                replace q146 := eq_true q146
                have p147 : 0 ≤ (1 : Int) := (by omega)
                have q147 : 1 < (t141.length : Int) := of_decide_eq_true (by first | (with_reducible assumption) | assumption)
                obtain ⟨ad147, e147, hx147_0⟩ := Kd.at_int (Kd.R_reads' HO145.out).2.2 1 p147 q147
                cases e147
                (try simp only [show (1 : Int).toNat = 1 from rfl, Nat.reduceMul, Nat.reduceEqDiff, Go.Addr.add, ↓reduceIte] at hx147_0)
                have qi147 : (1 < t141.length) = True := eq_true (by omega)
                (try rw [show ((1 : Int)).toNat = 1 from rfl] at hx147_0)
                replace p147 := eq_true p147
                replace q147 := eq_true q147
                go_wp2
                go_meet
                case rel => exact ⟨_, (true), (by first | rfl | (simp; done) | (simp [*]; done)), H', ⟨by first | omega | exact Nat.le_refl _⟩, ⟨by repeat (first | (with_reducible first | exact HB.out | apply below_alloc | apply pw_below_drewN | apply below_drew1) | exact HB.out)⟩⟩
            · rw [if_neg c18] at H
              exact absurd H (by simp)
          · rw [if_neg c17] at H
            have c17b0 : ((rdOf ByteArray.empty t140 1).toList == ([122] : List UInt8)) = false := beq_eq_false_iff_ne.mpr c17
            have c17b1 : ((rdOf ByteArray.empty t140 1).toList != ([122] : List UInt8)) = true := bne_iff_ne.mpr c17
            have H' := Aside0.mk H
            clear H
            obtain ⟨Ao25, co25, eo25⟩ := Kd.R_slice HO143.out
            subst eo25
            obtain ⟨Ao26, co26, eo26⟩ := Kd.R_slice HO145.out
            subst eo26
            have p146 : 0 ≤ (1 : Int) := (by omega)
            have q146 : 1 < (t140.length : Int) := of_decide_eq_true (by first | (with_reducible assumption) | assumption)
            obtain ⟨ad146, e146, hx146_0⟩ := Kd.at_string (Kd.R_reads' HO143.out).2.2 1 p146 q146
            cases e146
            (try simp only [show (1 : Int).toNat = 1 from rfl, Nat.reduceMul, Nat.reduceEqDiff, Go.Addr.add, ↓reduceIte] at hx146_0)
            have qi146 : (1 < t140.length) = True := eq_true (by omega)
            (try rw [show ((1 : Int)).toNat = 1 from rfl] at hx146_0)
            replace p146 := eq_true p146
            replace q146 := eq_true q146
            go_wp2
            go_meet
            case rel => exact ⟨_, (true), (by first | rfl | (simp; done) | (simp [*]; done)), H', ⟨by first | omega | exact Nat.le_refl _⟩, ⟨by repeat (first | (with_reducible first | exact HB.out | apply below_alloc | apply pw_below_drewN | apply below_drew1) | exact HB.out)⟩⟩
        · rw [if_neg c16] at H
          exact absurd H (by simp)
      · rw [if_neg c15] at H
        have c15b0 : ((t141.length : Int) == 3) = false := beq_eq_false_iff_ne.mpr c15
        have c15b1 : ((t141.length : Int) != 3) = true := bne_iff_ne.mpr c15
        have H' := Aside0.mk H
        clear H
        obtain ⟨Ao27, co27, eo27⟩ := Kd.R_slice HO143.out
        subst eo27
        obtain ⟨Ao28, co28, eo28⟩ := Kd.R_slice HO145.out
        subst eo28
        go_wp2
        go_meet
        case rel => exact ⟨_, (true), (by first | rfl | (simp; done) | (simp [*]; done)), H', ⟨by first | omega | exact Nat.le_refl _⟩, ⟨by repeat (first | (with_reducible first | exact HB.out | apply below_alloc | apply pw_below_drewN | apply below_drew1) | exact HB.out)⟩⟩
    · rw [if_neg c14] at H
      have c14b0 : ((t140.length : Int) == 3) = false := beq_eq_false_iff_ne.mpr c14
      have c14b1 : ((t140.length : Int) != 3) = true := bne_iff_ne.mpr c14
      (first | rw [c14b0] | (simp only [i64_w, i32_w]; rw [c14b0]) | skip)
      have H' := Aside0.mk H
      clear H
      obtain ⟨Ao29, co29, eo29⟩ := Kd.R_slice HO143.out
      subst eo29
      go_wp2
      go_meet
      case rel => exact ⟨_, (true), (by first | rfl | (simp; done) | (simp [*]; done)), H', ⟨by first | omega | exact Nat.le_refl _⟩, ⟨by repeat (first | (with_reducible first | exact HB.out | apply below_alloc | apply pw_below_drewN | apply below_drew1) | exact HB.out)⟩⟩
  case rest =>
    clear HC3
    try clear c1
    try clear p1
    try clear q1
    try clear hx1
    try clear qi1
    try clear c2
    try clear p2
    try clear c5
    try clear c14
    try clear c14b0
    try clear c14b1
    try clear p14
    try clear q14
    try clear hx14
    try clear qi14
    try clear c15
    try clear c15b0
    try clear c15b1
    try clear c16
    try clear c16b0
    try clear c16b1
    try clear c17
    try clear c17b0
    try clear c17b1
    try clear c18
    try clear c18b0
    try clear c18b1
    try clear c19
    try clear c19b0
    try clear c19b1
    try clear c20
    try clear c20b0
    try clear c20b1
    try clear c23
    try clear hx146_0
    try clear hx147_0
    try clear hx148_0
    try clear p146
    try clear p147
    try clear p148
    try clear q146
    try clear q147
    try clear q148
    obtain ⟨kq, x41_2, rfl, HA, HJ2, HB⟩ := hcut
    cases kq with
    | zero => exact absurd HA.out (by simp [whilomlaw27_LanesMerges.j0])
    | succ kj2 =>
      have H := HA.out
      clear HA
      simp only [whilomlaw27_LanesMerges.j0] at H
      by_cases c30 : x41_2 = true
      · subst c30
        have H1 : (some false) = some r := by rw [if_pos rfl] at H; exact H
        clear H
        have H := H1
        clear H1
        obtain rfl := Option.some.inj H
        go_wp2
        go_ret
        exact ⟨by first | rfl | (simp [errW_none, errW_some] <;> rfl) | (simp [*, errW_none, errW_some] <;> rfl), by repeat (first | (with_reducible first | exact HB.out | apply below_alloc | apply pw_below_drewN | apply below_drew1) | exact HB.out)⟩
      · replace c30 := Bool.eq_false_iff.mpr c30
        subst c30
        have H1 : ((whilomlaw27_small.f kj2 l0).bind fun t149 => (if t149 = true then ((lanes_Merge.f kj2 l0).bind fun bt150 => ((whilomref27_Merge.f kj2 l0).bind fun bt156 => ((whilomref20_Same.f kj2 bt150.1 bt156.1).bind fun t162 => (if t162 = true then ((whilomref01_Ints.f kj2 bt150.2 bt156.2).bind fun t163 => (some t163)) else (some false))))) else (some true))) = some r := by rw [if_neg (show ¬ (false = true) by decide)] at H; exact H
        clear H
        have H := H1
        clear H1
        replace H := Option.bind_eq_some_iff.mp H
        obtain ⟨t149, A310, H⟩ := H
        replace H : (if t149 = true then ((lanes_Merge.f kj2 l0).bind fun bt150 => ((whilomref27_Merge.f kj2 l0).bind fun bt156 => ((whilomref20_Same.f kj2 bt150.1 bt156.1).bind fun t162 => (if t162 = true then ((whilomref01_Ints.f kj2 bt150.2 bt156.2).bind fun t163 => (some t163)) else (some false))))) else (some true)) = some r := H
        have A31 := Aside0.mk A310
        clear A310
        by_cases c32 : t149 = true
        · subst c32
          have H1 : ((lanes_Merge.f kj2 l0).bind fun bt150 => ((whilomref27_Merge.f kj2 l0).bind fun bt156 => ((whilomref20_Same.f kj2 bt150.1 bt156.1).bind fun t162 => (if t162 = true then ((whilomref01_Ints.f kj2 bt150.2 bt156.2).bind fun t163 => (some t163)) else (some false))))) = some r := by rw [if_pos rfl] at H; exact H
          clear H
          have H := H1
          clear H1
          replace H := Option.bind_eq_some_iff.mp H
          obtain ⟨⟨t150, t151⟩, A330, H⟩ := H
          replace H : ((whilomref27_Merge.f kj2 l0).bind fun bt156 => ((whilomref20_Same.f kj2 t150 bt156.1).bind fun t162 => (if t162 = true then ((whilomref01_Ints.f kj2 t151 bt156.2).bind fun t163 => (some t163)) else (some false)))) = some r := H
          have A33 := Aside0.mk A330
          clear A330
          replace H := Option.bind_eq_some_iff.mp H
          obtain ⟨⟨t156, t157⟩, A340, H⟩ := H
          replace H : ((whilomref20_Same.f kj2 t150 t156).bind fun t162 => (if t162 = true then ((whilomref01_Ints.f kj2 t151 t157).bind fun t163 => (some t163)) else (some false))) = some r := H
          have A34 := Aside0.mk A340
          clear A340
          replace H := Option.bind_eq_some_iff.mp H
          obtain ⟨t162, A350, H⟩ := H
          replace H : (if t162 = true then ((whilomref01_Ints.f kj2 t151 t157).bind fun t163 => (some t163)) else (some false)) = some r := H
          have A35 := Aside0.mk A350
          clear A350
          by_cases c36 : t162 = true
          · subst c36
            have H1 : ((whilomref01_Ints.f kj2 t151 t157).bind fun t163 => (some t163)) = some r := by rw [if_pos rfl] at H; exact H
            clear H
            have H := H1
            clear H1
            replace H := Option.bind_eq_some_iff.mp H
            obtain ⟨t163, A370, H⟩ := H
            replace H : (some t163) = some r := H
            have A37 := Aside0.mk A370
            clear A370
            obtain rfl := Option.some.inj H
            go_wp2_with (first | ((with_reducible refine gate_callee (f := 24) rfl ?_); refine goesL_ (some 43) rfl rfl Try.func24 (by kernel_rfl) rfl #[.slice A0 l0.length c0] rfl (by (try simp only [List.map_toArray, List.map_cons, List.map_nil]); first | done | rfl | (simp only [List.length_drop, List.length_take]; rfl)) ?_; (with_reducible refine (whilomlaw27_small.calls kj2 _ _ l0 true _ ?side1 ?side2 A31.out).mono ?_); (case side1 => repeat (first | exact (Kd.C_below HR0.out HB.out) | (with_reducible refine Kd.C_alloc ?_ _) | (with_reducible refine Kd.C_drewN ?_ _) | (with_reducible refine Kd.C_drew ?_))); (case side2 => exact HC0.out); rintro e w' ⟨rfl, ⟨nd, rfl⟩⟩; refine ⟨_, rfl, ?_⟩) | ((with_reducible refine gate_callee (f := 23) rfl ?_); refine goesL_ (some 47) rfl rfl Try.func23 (by kernel_rfl) rfl #[.slice A0 l0.length c0] rfl (by (try simp only [List.map_toArray, List.map_cons, List.map_nil]); first | done | rfl | (simp only [List.length_drop, List.length_take]; rfl)) ?_; (with_reducible refine (lanes_Merge.calls kj2 _ _ l0 t150 t151 _ ?side1 ?side2 A33.out).mono ?_); (case side1 => repeat (first | exact (Kd.C_below HR0.out (by repeat (first | (with_reducible first | exact HB.out | apply below_alloc | apply pw_below_drewN | apply below_drew1) | exact HB.out))) | (with_reducible refine Kd.C_alloc ?_ _) | (with_reducible refine Kd.C_drewN ?_ _) | (with_reducible refine Kd.C_drew ?_))); (case side2 => exact HC0.out); rintro e w38 ⟨v152, v154, rfl, ho0, ho1, hb⟩; refine ⟨_, rfl, ?_⟩; have n0_ := Aside0.mk (Kd.R_lower ho0 (below_size (by repeat (first | (with_reducible first | exact HB.out | apply below_alloc | apply pw_below_drewN | apply below_drew1) | exact HB.out)))); have n1_ := Aside0.mk (Kd.R_lower ho1 (below_size (by repeat (first | (with_reducible first | exact HB.out | apply below_alloc | apply pw_below_drewN | apply below_drew1) | exact HB.out)))); have n2_ := Aside0.mk (below_step (by repeat (first | (with_reducible first | exact HB.out | apply below_alloc | apply pw_below_drewN | apply below_drew1) | exact HB.out)) hb); clear HB; have HO153 := n0_; have HO155 := n1_; have HB := n2_; clear n0_ n1_ n2_; (try clear hb); (try clear hb2); (try clear hk); (try clear hi); (try clear ho0); (try clear ho1)) | ((with_reducible refine gate_callee (f := 25) rfl ?_); refine goesL_ (some 52) rfl rfl Try.func25 (by kernel_rfl) rfl #[.slice A0 l0.length c0] rfl (by (try simp only [List.map_toArray, List.map_cons, List.map_nil]); first | done | rfl | (simp only [List.length_drop, List.length_take]; rfl)) ?_; (with_reducible refine (whilomref27_Merge.calls kj2 _ _ l0 t156 t157 _ ?side1 ?side2 A34.out).mono ?_); (case side1 => repeat (first | exact (Kd.C_below HR0.out HB.out) | (with_reducible refine Kd.C_alloc ?_ _) | (with_reducible refine Kd.C_drewN ?_ _) | (with_reducible refine Kd.C_drew ?_))); (case side2 => exact HC0.out); rintro e w39 ⟨v158, v160, rfl, ho0, ho1, hb⟩; refine ⟨_, rfl, ?_⟩; have n0_ := Aside0.mk (Kd.R_elder' (by (with_reducible repeat (first | apply Kd.R_alloc | apply Kd.R_drewN | apply Kd.R_drew)); exact HO153.out) (Kd.R_base ho0) hb); have n1_ := Aside0.mk (Kd.R_elder' (by (with_reducible repeat (first | apply Kd.R_alloc | apply Kd.R_drewN | apply Kd.R_drew)); exact HO155.out) (Kd.R_base ho1) hb); have n2_ := Aside0.mk (Kd.R_lower (Kd.R_new' ho0 (Kd.R_lt (by (with_reducible repeat (first | apply Kd.R_alloc | apply Kd.R_drewN | apply Kd.R_drew)); exact HO153.out))) (below_size (by repeat (first | (with_reducible first | exact HB.out | apply below_alloc | apply pw_below_drewN | apply below_drew1) | exact HB.out)))); have n3_ := Aside0.mk (Kd.R_lower (Kd.R_new' ho1 (Kd.R_lt (by (with_reducible repeat (first | apply Kd.R_alloc | apply Kd.R_drewN | apply Kd.R_drew)); exact HO155.out))) (below_size (by repeat (first | (with_reducible first | exact HB.out | apply below_alloc | apply pw_below_drewN | apply below_drew1) | exact HB.out)))); have n4_ := Aside0.mk (below_step (by repeat (first | (with_reducible first | exact HB.out | apply below_alloc | apply pw_below_drewN | apply below_drew1) | exact HB.out)) hb); clear HO153; clear HO155; clear HB; have HO153 := n0_; have HO155 := n1_; have HO159 := n2_; have HO161 := n3_; have HB := n4_; clear n0_ n1_ n2_ n3_ n4_; (try clear hb); (try clear hb2); (try clear hk); (try clear hi); (try clear ho0); (try clear ho1); obtain ⟨Ao40, co40, eo40⟩ := Kd.R_slice HO153.out; subst eo40; obtain ⟨Ao41, co41, eo41⟩ := Kd.R_slice HO159.out; subst eo41) | ((with_reducible refine gate_callee (f := 26) rfl ?_); refine goesL_ (some 57) rfl rfl Try.func26 (by kernel_rfl) rfl #[.slice Ao40 t150.length co40, .slice Ao41 t156.length co41] rfl (by (try simp only [List.map_toArray, List.map_cons, List.map_nil]); first | done | rfl | (simp only [List.length_drop, List.length_take]; rfl)) ?_; (with_reducible refine (whilomref20_Same.calls kj2 _ _ t150 _ _ t156 true _ ?side1 ?side2 ?side3 ?side4 A35.out).mono ?_); (case side1 => repeat (first | exact (Kd.R_reads' HO153.out).2.2 | (with_reducible refine Kd.C_alloc ?_ _) | (with_reducible refine Kd.C_drewN ?_ _) | (with_reducible refine Kd.C_drew ?_))); (case side2 => exact (Kd.R_reads' HO153.out).2.1); (case side3 => repeat (first | exact (Kd.R_reads' HO159.out).2.2 | (with_reducible refine Kd.C_alloc ?_ _) | (with_reducible refine Kd.C_drewN ?_ _) | (with_reducible refine Kd.C_drew ?_))); (case side4 => exact (Kd.R_reads' HO159.out).2.1); rintro e w' ⟨rfl, ⟨nd, rfl⟩⟩; refine ⟨_, rfl, ?_⟩; obtain ⟨Ao42, co42, eo42⟩ := Kd.R_slice HO155.out; subst eo42; obtain ⟨Ao43, co43, eo43⟩ := Kd.R_slice HO161.out; subst eo43) | (go_at_call 27; (with_reducible refine (whilomref01_Ints.calls kj2 _ _ t151 _ _ t157 t163 _ ?side1 ?side2 ?side3 ?side4 A37.out).mono ?_); (case side1 => repeat (first | exact (Kd.R_reads' HO155.out).2.2 | (with_reducible refine Kd.C_alloc ?_ _) | (with_reducible refine Kd.C_drewN ?_ _) | (with_reducible refine Kd.C_drew ?_))); (case side2 => exact (Kd.R_reads' HO155.out).2.1); (case side3 => repeat (first | exact (Kd.R_reads' HO161.out).2.2 | (with_reducible refine Kd.C_alloc ?_ _) | (with_reducible refine Kd.C_drewN ?_ _) | (with_reducible refine Kd.C_drew ?_))); (case side4 => exact (Kd.R_reads' HO161.out).2.1); rintro e w' ⟨rfl, ⟨nd, rfl⟩⟩))
            go_ret
            exact ⟨by first | rfl | (simp [errW_none, errW_some] <;> rfl) | (simp [*, errW_none, errW_some] <;> rfl), by repeat (first | (with_reducible first | exact HB.out | apply below_alloc | apply pw_below_drewN | apply below_drew1) | exact HB.out)⟩
          · replace c36 := Bool.eq_false_iff.mpr c36
            subst c36
            have H1 : (some false) = some r := by rw [if_neg (show ¬ (false = true) by decide)] at H; exact H
            clear H
            have H := H1
            clear H1
            obtain rfl := Option.some.inj H
            go_wp2_with (first | ((with_reducible refine gate_callee (f := 24) rfl ?_); refine goesL_ (some 43) rfl rfl Try.func24 (by kernel_rfl) rfl #[.slice A0 l0.length c0] rfl (by (try simp only [List.map_toArray, List.map_cons, List.map_nil]); first | done | rfl | (simp only [List.length_drop, List.length_take]; rfl)) ?_; (with_reducible refine (whilomlaw27_small.calls kj2 _ _ l0 true _ ?side1 ?side2 A31.out).mono ?_); (case side1 => repeat (first | exact (Kd.C_below HR0.out HB.out) | (with_reducible refine Kd.C_alloc ?_ _) | (with_reducible refine Kd.C_drewN ?_ _) | (with_reducible refine Kd.C_drew ?_))); (case side2 => exact HC0.out); rintro e w' ⟨rfl, ⟨nd, rfl⟩⟩; refine ⟨_, rfl, ?_⟩) | ((with_reducible refine gate_callee (f := 23) rfl ?_); refine goesL_ (some 47) rfl rfl Try.func23 (by kernel_rfl) rfl #[.slice A0 l0.length c0] rfl (by (try simp only [List.map_toArray, List.map_cons, List.map_nil]); first | done | rfl | (simp only [List.length_drop, List.length_take]; rfl)) ?_; (with_reducible refine (lanes_Merge.calls kj2 _ _ l0 t150 t151 _ ?side1 ?side2 A33.out).mono ?_); (case side1 => repeat (first | exact (Kd.C_below HR0.out (by repeat (first | (with_reducible first | exact HB.out | apply below_alloc | apply pw_below_drewN | apply below_drew1) | exact HB.out))) | (with_reducible refine Kd.C_alloc ?_ _) | (with_reducible refine Kd.C_drewN ?_ _) | (with_reducible refine Kd.C_drew ?_))); (case side2 => exact HC0.out); rintro e w44 ⟨v152, v154, rfl, ho0, ho1, hb⟩; refine ⟨_, rfl, ?_⟩; have n0_ := Aside0.mk (Kd.R_lower ho0 (below_size (by repeat (first | (with_reducible first | exact HB.out | apply below_alloc | apply pw_below_drewN | apply below_drew1) | exact HB.out)))); have n1_ := Aside0.mk (Kd.R_lower ho1 (below_size (by repeat (first | (with_reducible first | exact HB.out | apply below_alloc | apply pw_below_drewN | apply below_drew1) | exact HB.out)))); have n2_ := Aside0.mk (below_step (by repeat (first | (with_reducible first | exact HB.out | apply below_alloc | apply pw_below_drewN | apply below_drew1) | exact HB.out)) hb); clear HB; have HO153 := n0_; have HO155 := n1_; have HB := n2_; clear n0_ n1_ n2_; (try clear hb); (try clear hb2); (try clear hk); (try clear hi); (try clear ho0); (try clear ho1)) | ((with_reducible refine gate_callee (f := 25) rfl ?_); refine goesL_ (some 52) rfl rfl Try.func25 (by kernel_rfl) rfl #[.slice A0 l0.length c0] rfl (by (try simp only [List.map_toArray, List.map_cons, List.map_nil]); first | done | rfl | (simp only [List.length_drop, List.length_take]; rfl)) ?_; (with_reducible refine (whilomref27_Merge.calls kj2 _ _ l0 t156 t157 _ ?side1 ?side2 A34.out).mono ?_); (case side1 => repeat (first | exact (Kd.C_below HR0.out HB.out) | (with_reducible refine Kd.C_alloc ?_ _) | (with_reducible refine Kd.C_drewN ?_ _) | (with_reducible refine Kd.C_drew ?_))); (case side2 => exact HC0.out); rintro e w45 ⟨v158, v160, rfl, ho0, ho1, hb⟩; refine ⟨_, rfl, ?_⟩; have n0_ := Aside0.mk (Kd.R_elder' (by (with_reducible repeat (first | apply Kd.R_alloc | apply Kd.R_drewN | apply Kd.R_drew)); exact HO153.out) (Kd.R_base ho0) hb); have n1_ := Aside0.mk (Kd.R_elder' (by (with_reducible repeat (first | apply Kd.R_alloc | apply Kd.R_drewN | apply Kd.R_drew)); exact HO155.out) (Kd.R_base ho1) hb); have n2_ := Aside0.mk (Kd.R_lower (Kd.R_new' ho0 (Kd.R_lt (by (with_reducible repeat (first | apply Kd.R_alloc | apply Kd.R_drewN | apply Kd.R_drew)); exact HO153.out))) (below_size (by repeat (first | (with_reducible first | exact HB.out | apply below_alloc | apply pw_below_drewN | apply below_drew1) | exact HB.out)))); have n3_ := Aside0.mk (Kd.R_lower (Kd.R_new' ho1 (Kd.R_lt (by (with_reducible repeat (first | apply Kd.R_alloc | apply Kd.R_drewN | apply Kd.R_drew)); exact HO155.out))) (below_size (by repeat (first | (with_reducible first | exact HB.out | apply below_alloc | apply pw_below_drewN | apply below_drew1) | exact HB.out)))); have n4_ := Aside0.mk (below_step (by repeat (first | (with_reducible first | exact HB.out | apply below_alloc | apply pw_below_drewN | apply below_drew1) | exact HB.out)) hb); clear HO153; clear HO155; clear HB; have HO153 := n0_; have HO155 := n1_; have HO159 := n2_; have HO161 := n3_; have HB := n4_; clear n0_ n1_ n2_ n3_ n4_; (try clear hb); (try clear hb2); (try clear hk); (try clear hi); (try clear ho0); (try clear ho1); obtain ⟨Ao46, co46, eo46⟩ := Kd.R_slice HO153.out; subst eo46; obtain ⟨Ao47, co47, eo47⟩ := Kd.R_slice HO159.out; subst eo47) | ((with_reducible refine gate_callee (f := 26) rfl ?_); refine goesL_ (some 57) rfl rfl Try.func26 (by kernel_rfl) rfl #[.slice Ao46 t150.length co46, .slice Ao47 t156.length co47] rfl (by (try simp only [List.map_toArray, List.map_cons, List.map_nil]); first | done | rfl | (simp only [List.length_drop, List.length_take]; rfl)) ?_; (with_reducible refine (whilomref20_Same.calls kj2 _ _ t150 _ _ t156 false _ ?side1 ?side2 ?side3 ?side4 A35.out).mono ?_); (case side1 => repeat (first | exact (Kd.R_reads' HO153.out).2.2 | (with_reducible refine Kd.C_alloc ?_ _) | (with_reducible refine Kd.C_drewN ?_ _) | (with_reducible refine Kd.C_drew ?_))); (case side2 => exact (Kd.R_reads' HO153.out).2.1); (case side3 => repeat (first | exact (Kd.R_reads' HO159.out).2.2 | (with_reducible refine Kd.C_alloc ?_ _) | (with_reducible refine Kd.C_drewN ?_ _) | (with_reducible refine Kd.C_drew ?_))); (case side4 => exact (Kd.R_reads' HO159.out).2.1); rintro e w' ⟨rfl, ⟨nd, rfl⟩⟩; refine ⟨_, rfl, ?_⟩))
            go_ret
            exact ⟨by first | rfl | (simp [errW_none, errW_some] <;> rfl) | (simp [*, errW_none, errW_some] <;> rfl), by repeat (first | (with_reducible first | exact HB.out | apply below_alloc | apply pw_below_drewN | apply below_drew1) | exact HB.out)⟩
        · replace c32 := Bool.eq_false_iff.mpr c32
          subst c32
          have H1 : (some true) = some r := by rw [if_neg (show ¬ (false = true) by decide)] at H; exact H
          clear H
          have H := H1
          clear H1
          obtain rfl := Option.some.inj H
          go_wp2_with (first | ((with_reducible refine gate_callee (f := 24) rfl ?_); refine goesL_ (some 43) rfl rfl Try.func24 (by kernel_rfl) rfl #[.slice A0 l0.length c0] rfl (by (try simp only [List.map_toArray, List.map_cons, List.map_nil]); first | done | rfl | (simp only [List.length_drop, List.length_take]; rfl)) ?_; (with_reducible refine (whilomlaw27_small.calls kj2 _ _ l0 false _ ?side1 ?side2 A31.out).mono ?_); (case side1 => repeat (first | exact (Kd.C_below HR0.out HB.out) | (with_reducible refine Kd.C_alloc ?_ _) | (with_reducible refine Kd.C_drewN ?_ _) | (with_reducible refine Kd.C_drew ?_))); (case side2 => exact HC0.out); rintro e w' ⟨rfl, ⟨nd, rfl⟩⟩; refine ⟨_, rfl, ?_⟩))
          go_ret
          exact ⟨by first | rfl | (simp [errW_none, errW_some] <;> rfl) | (simp [*, errW_none, errW_some] <;> rfl), by repeat (first | (with_reducible first | exact HB.out | apply below_alloc | apply pw_below_drewN | apply below_drew1) | exact HB.out)⟩

end Go.Proofs.Ytfkbijkmdnieiaa.PLanesMerges
