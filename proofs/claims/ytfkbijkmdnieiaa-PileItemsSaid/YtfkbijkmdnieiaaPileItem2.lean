/- The contracts of a pile of items: Len, Top, Pop. No conditions. -/
import Derived.Test.YtfkbijkmdnieiaaPileItem
namespace Go.Proofs.Ytfkbijkmdnieiaa.PileItem
open Go.RowKit Go.Proofs.Ytfkbijkmdnieiaa.Mem Go.Proofs.Ytfkbijkmdnieiaa.Ring Go.Proofs.Ytfkbijkmdnieiaa.PPileItems

set_option maxHeartbeats 400000 in
theorem len (B R L f : Nat) (vs : List S46) (w : World) (h : P w B R L f vs) :
    Calls Try.prog 42 #[.pointer (some ⟨B, 0, none⟩)] w fun e w' => e = .returned (.int .i64 vs.length) ∧ w = w' := by
  obtain ⟨c0, c1, c2, g0, g1, g2⟩ := head_cells h
  clear h
  go_enter Try.func42, Try.ntmps42
  go_wp2
  go_ret
  exact ⟨rfl, rfl⟩

set_option maxRecDepth 100000 in
set_option maxHeartbeats 1000000 in
theorem top_none (B R L f : Nat) (w : World) (h : P w B R L f []) :
    Calls Try.prog 74 #[.pointer (some ⟨B, 0, none⟩)] w fun e w' => e = .returned (.tuple #[agg z46, .bool false]) ∧ Chg (fun _ => False) w w' := by
  obtain ⟨c0, c1, c2, g0, g1, g2⟩ := head_cells h
  have hB := h.ltB
  have hB1 : B < w.heap.size + 1 := by omega
  clear h
  simp only [List.length_nil] at c2
  go_enter Try.func74, Try.ntmps74
  go_wp2
  refine bodyPost_ret (v := .tuple #[agg z46, .bool false]) (by simp [results, Try.results74, go_sem, z46]) rfl ⟨rfl, ?_⟩
  repeat (first | with_reducible apply Chg.drewN | with_reducible apply Chg.alloc | (with_reducible refine Chg.set ?_ (by (intro hh; simp at hh)) _) | with_reducible exact Chg.refl _ _)

set_option maxRecDepth 100000 in
set_option maxHeartbeats 2000000 in
theorem top_some (B R L f : Nat) (vs : List S46) (v : S46) (w : World) (h : P w B R L f vs) (hv : vs.getLast? = some v) :
    Calls Try.prog 74 #[.pointer (some ⟨B, 0, none⟩)] w fun e w' => e = .returned (.tuple #[agg v, .bool true]) ∧ Chg (fun _ => False) w w' := by
  have hne : vs ≠ [] := by rintro rfl; simp at hv
  have hlen : 0 < vs.length := List.length_pos_iff.2 hne
  have hcr := ring_at h (vs.length - 1) v (by rw [List.getLast?_eq_getElem?] at hv; exact hv)
  have hL2 := h.most
  have hle := h.le
  have hf : f ≤ 10000 := by have := h.first; omega
  have hB := h.ltB
  have hR := h.ltR
  have hB1 : B < w.heap.size + 1 := by omega
  have HP := Lib.hid h
  obtain ⟨c0, c1, c2, _, _, _⟩ := head_cells h
  clear h hv hne
  obtain ⟨n, hvn⟩ : ∃ n, vs.length = n + 1 := ⟨vs.length - 1, by omega⟩
  have HVN := Lib.hid hvn
  rw [hvn] at hle hcr
  rw [hvn, Int.natCast_succ] at c2
  clear hlen hvn
  obtain ⟨x, hx⟩ : ∃ x, (f + (n + 1 - 1)) % L = x := ⟨_, rfl⟩
  have hxL : x < L := by rw [← hx]; exact Nat.mod_lt _ (by omega)
  rw [hx] at hcr
  have HX := Lib.hid hx; clear hx
  have HCR := Lib.hid hcr; clear hcr
  go_enter Try.func74, Try.ntmps74
  go_wp2
  have hPW : Hid (P (w.alloc (Obj.cells #[Value.int .i64 0, Value.int .i64 0] 46)) B R L f vs) := HP.out.keep ((Chg.refl (fun _ => False) w).alloc _) (by simp) (by simp)
  have hW1 : Hid (Blk (w.alloc (Obj.cells #[Value.int .i64 0, Value.int .i64 0] 46)) w.heap.size #[.int .i64 0, .int .i64 0] 46) := Blk.at_ rfl _ _
  have hCW : Hid (Chg (fun _ => False) w (w.alloc (Obj.cells #[Value.int .i64 0, Value.int .i64 0] 46))) := (Chg.refl _ w).alloc _
  have cr0 : (w.alloc (Obj.cells #[Value.int .i64 0, Value.int .i64 0] 46)).cell? ⟨R, x * 2, none⟩ = some (.int .i64 v.f0) := (hCW.out.cell (p := ⟨R, x * 2, none⟩) hR (by simp)).trans HCR.out.1
  have cr1 : (w.alloc (Obj.cells #[Value.int .i64 0, Value.int .i64 0] 46)).cell? ⟨R, x * 2 + 1, none⟩ = some (.int .i64 v.f1) := (hCW.out.cell (p := ⟨R, x * 2 + 1, none⟩) hR (by simp)).trans HCR.out.2
  generalize (w.alloc (Obj.cells #[Value.int .i64 0, Value.int .i64 0] 46)) = W at *
  obtain ⟨N, hN⟩ : ∃ N, w.heap.size = N := ⟨_, rfl⟩
  rw [hN] at hW1 hB hR
  rw [hN]
  have HNN := Lib.hid hN
  clear c0 c1 c2 hB1 hN
  obtain ⟨c0, c1, c2, _, _, _⟩ := head_cells hPW.out
  rw [HVN.out, Int.natCast_succ] at c2
  have r0 := hW1.out.cell (j := 0) rfl
  have r1 := hW1.out.cell (j := 1) rfl
  have q0 := hW1.out.free 0
  have q1 := hW1.out.free 1
  have n1 : B ≠ N := by omega
  have n2 : R ≠ N := by omega
  have m1 : N ≠ B := by omega
  have m2 : N ≠ R := by omega
  have hx0 : (0 : Int) ≤ (x : Int) := by omega
  have hx1 : (x : Int) < (L : Int) := by omega
  have hx2 : (f + n) % L = x := by have := HX.out; rwa [Nat.add_sub_cancel] at this
  have HX2 := Lib.hid hx2; clear hx2
  have hwn : IntKind.i64.wrap (n : Int) = (n : Int) := IntWalk.i64_in _ (by omega)
  go_region_with (go_at_call 73; refine (at_item B R L f n x _ (by omega) hL2 (by omega) (by omega) HX2.out (by go_simp) (by go_simp)).mono ?_; rintro e w' ⟨rfl, m, rfl⟩)
  all_goals
    go_wp2
    refine bodyPost_ret (v := .tuple #[agg v, .bool true]) (by simp [results, Try.results74, go_sem, r0, r1]) rfl ⟨rfl, ?_⟩
    repeat (first | with_reducible apply Chg.drewN | with_reducible apply Chg.alloc | (with_reducible refine Chg.set ?_ (by (intro hh; rw [HNN.out] at hh; simp at hh)) _) | with_reducible exact hCW.out)

set_option maxRecDepth 100000 in
set_option maxHeartbeats 1000000 in
theorem pop_none (B R L f : Nat) (w : World) (h : P w B R L f []) :
    Calls Try.prog 41 #[.pointer (some ⟨B, 0, none⟩)] w fun e w' => e = .returned (.tuple #[agg z46, .bool false]) ∧ P w' B R L f [] ∧ Chg (fun k => k = B ∨ k = R) w w' := by
  have HP := Lib.hid h; clear h
  have HPW : Hid (P (w.alloc (Obj.cells #[Value.int .i64 0, Value.int .i64 0] 46)) B R L f []) := HP.out.keep ((Chg.refl (fun _ => False) w).alloc _) (by simp) (by simp)
  have hW1 : Hid (Blk (w.alloc (Obj.cells #[Value.int .i64 0, Value.int .i64 0] 46)) w.heap.size #[.int .i64 0, .int .i64 0] 46) := Blk.at_ rfl _ _
  have hCW : Hid (Chg (fun _ => False) w (w.alloc (Obj.cells #[Value.int .i64 0, Value.int .i64 0] 46))) := (Chg.refl _ w).alloc _
  go_enter Try.func41, Try.ntmps41
  go_wp2_with fail
  refine (top_none B R L f _ HPW.out).mono ?_
  rintro e wT ⟨rfl, hc⟩
  have hBT := hW1.out.keep hc (by simp)
  have r0 := hBT.cell (j := 0) rfl
  have r1 := hBT.cell (j := 1) rfl
  have q0 := hBT.free 0
  have q1 := hBT.free 1
  have hlt := hBT.lt
  have hlt1 : w.heap.size < wT.heap.size + 1 := by omega
  have HCT : Hid (Chg (fun _ => False) w wT) := hCW.out.trans hc (by simp)
  clear hBT hc
  go_wp2
  have hk : ∀ {w' : World}, Chg (fun _ => False) w w' → P w' B R L f [] ∧ Chg (fun k => k = B ∨ k = R) w w' := fun hc => ⟨HP.out.keep hc (by simp) (by simp), hc.mono (by simp)⟩
  refine bodyPost_ret (v := .tuple #[agg z46, .bool false]) (by simp [results, Try.results41, go_sem, z46, r0, r1, hlt]) rfl ⟨rfl, hk ?_⟩
  repeat (first | with_reducible apply Chg.drewN | with_reducible apply Chg.alloc | (with_reducible refine Chg.set ?_ (by (intro hh; simp at hh)) _) | with_reducible exact HCT.out)

set_option maxRecDepth 100000 in
set_option maxHeartbeats 1000000 in
theorem pop_some (B R L f : Nat) (vs : List S46) (v : S46) (w : World) (h : P w B R L f vs) (hv : vs.getLast? = some v) :
    Calls Try.prog 41 #[.pointer (some ⟨B, 0, none⟩)] w fun e w' => e = .returned (.tuple #[agg v, .bool true]) ∧ P w' B R L f vs.dropLast ∧ Chg (fun k => k = B ∨ k = R) w w' := by
  have hne : vs ≠ [] := by rintro rfl; simp at hv
  have hlen : 0 < vs.length := List.length_pos_iff.2 hne
  have HLEN := Lib.hid hlen
  have HV := Lib.hid hv
  have HP := Lib.hid h
  have hL2 := h.most
  have hle := h.le
  have hf : f ≤ 10000 := by have := h.first; omega
  have hBR := h.apart
  have hRB : R ≠ B := fun e => hBR e.symm
  have hB := h.ltB
  have hR := h.ltR
  clear h hv hne
  have HPW : Hid (P (w.alloc (Obj.cells #[Value.int .i64 0, Value.int .i64 0] 46)) B R L f vs) := HP.out.keep ((Chg.refl (fun _ => False) w).alloc _) (by simp) (by simp)
  have hW1 : Hid (Blk (w.alloc (Obj.cells #[Value.int .i64 0, Value.int .i64 0] 46)) w.heap.size #[.int .i64 0, .int .i64 0] 46) := Blk.at_ rfl _ _
  have hCW : Hid (Chg (fun _ => False) w (w.alloc (Obj.cells #[Value.int .i64 0, Value.int .i64 0] 46))) := (Chg.refl _ w).alloc _
  obtain ⟨n, hvn⟩ : ∃ n, vs.length = n + 1 := ⟨vs.length - 1, by omega⟩
  have HVN := Lib.hid hvn
  rw [hvn] at hle
  clear hlen hvn
  obtain ⟨x, hx⟩ : ∃ x, (f + n) % L = x := ⟨_, rfl⟩
  have hxL : x < L := by rw [← hx]; exact Nat.mod_lt _ (by omega)
  have HX := Lib.hid hx; clear hx
  go_enter Try.func41, Try.ntmps41
  go_wp2_with fail
  refine (top_some B R L f vs v _ HPW.out HV.out).mono ?_
  rintro e wT ⟨rfl, hc⟩
  have hBT := hW1.out.keep hc (by simp)
  have HBT := Lib.hid hBT
  have HCT : Hid (Chg (fun _ => False) w wT) := hCW.out.trans hc (by simp)
  have HPT : Hid (P wT B R L f vs) := HPW.out.keep hc (by simp) (by simp)
  obtain ⟨N, hN⟩ : ∃ N, w.heap.size = N := ⟨_, rfl⟩
  rw [hN] at HBT hB hR
  rw [hN]
  have HNN := Lib.hid hN
  have hlt := HBT.out.lt
  clear hBT hc hN hW1 hCW HPW HP
  have hB0 : B < wT.heap.size := by omega
  have hB1 : B < wT.heap.size + 1 := by omega
  obtain ⟨c0, c1, c2, g0, g1, g2⟩ := head_cells HPT.out
  rw [HVN.out, Int.natCast_succ] at c2
  go_wp2
  have z0 : Hid (Blk (((wT.setCell ⟨B, 2, none⟩ (.int .i64 n)).alloc (Obj.cells #[Value.int .i64 v.f0, Value.int .i64 v.f1] 46)).alloc (Obj.cells #[Value.int .i64 0, Value.int .i64 0] 46)) B #[.slice (some ⟨R, 0, none⟩) L L, .int .i64 f, .int .i64 n] 95) := ((HPT.out.head.set 2 (.int .i64 n)).alloc _).alloc _
  have z1 : Hid (Blk (((wT.setCell ⟨B, 2, none⟩ (.int .i64 n)).alloc (Obj.cells #[Value.int .i64 v.f0, Value.int .i64 v.f1] 46)).alloc (Obj.cells #[Value.int .i64 0, Value.int .i64 0] 46)) wT.heap.size #[.int .i64 v.f0, .int .i64 v.f1] 46) := (Blk.at_ (by simp) _ _).alloc _
  have z2 : Hid (Blk (((wT.setCell ⟨B, 2, none⟩ (.int .i64 n)).alloc (Obj.cells #[Value.int .i64 v.f0, Value.int .i64 v.f1] 46)).alloc (Obj.cells #[Value.int .i64 0, Value.int .i64 0] 46)) (wT.heap.size + 1) #[.int .i64 0, .int .i64 0] 46) := Blk.at_ (by simp) _ _
  have z3 : Hid (Blk (((wT.setCell ⟨B, 2, none⟩ (.int .i64 n)).alloc (Obj.cells #[Value.int .i64 v.f0, Value.int .i64 v.f1] 46)).alloc (Obj.cells #[Value.int .i64 0, Value.int .i64 0] 46)) N #[.int .i64 0, .int .i64 0] 46) := ((HBT.out.far (p := ⟨B, 2, none⟩) (show N ≠ B by omega) _).alloc _).alloc _
  have z4 : Hid (∀ cs, Blk wT R cs 46 → Blk (((wT.setCell ⟨B, 2, none⟩ (.int .i64 n)).alloc (Obj.cells #[Value.int .i64 v.f0, Value.int .i64 v.f1] 46)).alloc (Obj.cells #[Value.int .i64 0, Value.int .i64 0] 46)) R cs 46) := fun cs hcs => ((hcs.far (p := ⟨B, 2, none⟩) hRB _).alloc _).alloc _
  have z5 : Hid (Chg (fun k => k = B ∨ k = R) w (((wT.setCell ⟨B, 2, none⟩ (.int .i64 n)).alloc (Obj.cells #[Value.int .i64 v.f0, Value.int .i64 v.f1] 46)).alloc (Obj.cells #[Value.int .i64 0, Value.int .i64 0] 46))) := (((HCT.out.mono (by simp)).set (fun _ => Or.inl rfl) _).alloc _).alloc _
  obtain ⟨cs0, hcs0, hcsz⟩ : ∃ cs, Blk wT R cs 46 ∧ cs.size = L * 2 := by
    obtain ⟨cs, hh, hh2⟩ := HPT.out.ring
    exact ⟨cs, hh, hh2.1⟩
  have z6 := z4.out cs0 hcs0
  generalize (((wT.setCell ⟨B, 2, none⟩ (.int .i64 n)).alloc (Obj.cells #[Value.int .i64 v.f0, Value.int .i64 v.f1] 46)).alloc (Obj.cells #[Value.int .i64 0, Value.int .i64 0] 46)) = W at *
  obtain ⟨M, hM⟩ : ∃ M, wT.heap.size = M := ⟨_, rfl⟩
  rw [hM] at z1 z2 hlt hB0 hB1
  rw [hM]
  have HMM := Lib.hid hM
  clear c0 c1 c2 g0 g1 g2 hcs0 hM
  have c0 := z0.out.cell (j := 0) rfl
  have c1 := z0.out.cell (j := 1) rfl
  have c2 := z0.out.cell (j := 2) rfl
  have k0 := z1.out.cell (j := 0) rfl
  have k1 := z1.out.cell (j := 1) rfl
  have s0 := z2.out.cell (j := 0) rfl
  have s1 := z2.out.cell (j := 1) rfl
  have r0 := z3.out.cell (j := 0) rfl
  have r1 := z3.out.cell (j := 1) rfl
  have q0 := z3.out.free 0
  have q1 := z3.out.free 1
  have cr := z6.cell (j := x * 2) (v := cs0[x * 2]'(by omega)) (by simp)
  have cr' := z6.cell (j := x * 2 + 1) (v := cs0[x * 2 + 1]'(by omega)) (by simp)
  have fr := z6.free (x * 2)
  have fr' := z6.free (x * 2 + 1)
  generalize cs0[x * 2]'(by omega) = e0 at *
  generalize cs0[x * 2 + 1]'(by omega) = e1 at *
  clear z6
  have n1 : B ≠ N := by omega
  have n2 : R ≠ N := by omega
  have n3 : B ≠ M := by omega
  have n4 : R ≠ M := by have := HPT.out.ltR; rw [HMM.out] at this; omega
  have n5 : N ≠ M := by omega
  have n6 : R ≠ M + 1 := by have := HPT.out.ltR; rw [HMM.out] at this; omega
  have n7 : B ≠ M + 1 := by omega
  have hx0 : (0 : Int) ≤ (x : Int) := by omega
  have hx1 : (x : Int) < (L : Int) := by omega
  go_region_held3 (fun w' => w'.cell? ⟨B, 0, none⟩ = some (.slice (some ⟨R, 0, none⟩) L L) ∧ w'.cell? ⟨B, 1, none⟩ = some (.int .i64 f) ∧ w'.cell? ⟨B, 2, none⟩ = some (.int .i64 n) ∧ w'.cell? ⟨M + 1, 0, none⟩ = some (.int .i64 0) ∧ w'.cell? ⟨M + 1, 1, none⟩ = some (.int .i64 0)) (go_keep) (first | (go_at_call 73; refine (at_item B R L f n x _ (by omega) hL2 (by omega) (by omega) HX.out (by go_simp) (by go_simp)).mono ?_; rintro e w' ⟨rfl, m, rfl⟩))
  go_wp2
  refine bodyPost_ret (v := .tuple #[agg v, .bool true]) (by simp [results, Try.results41, go_sem, r0, r1]) rfl ⟨rfl, fin_pop (us := [.int .i64 0, .int .i64 0]) enc_len HPT.out HLEN.out ?_ (fun cs hcs hsz => ?_), ?_⟩
  · refine ⟨_, (by repeat (first | with_reducible apply Blk.drewN | with_reducible apply Blk.alloc | with_reducible apply Blk.set | (with_reducible apply Blk.far; case hp => first | exact hBR | exact n1 | (simp; omega)) | with_reducible exact z0.out)), ?_⟩
    simp [HVN.out]
  · have hcs2 := z4.out cs hcs
    refine ⟨_, (by repeat (first | with_reducible apply Blk.drewN | with_reducible apply Blk.alloc | with_reducible apply Blk.set | (with_reducible apply Blk.far; case hp => first | exact hRB | exact n2 | (simp; omega)) | with_reducible exact hcs2)), ?_⟩
    rw [HVN.out, Nat.add_sub_cancel, HX.out]
    exact wrote_two (by omega)
  · repeat (first | with_reducible apply Chg.drewN | with_reducible apply Chg.alloc | (with_reducible refine Chg.set ?_ (by first | exact fun _ => Or.inl rfl | exact fun _ => Or.inr rfl | (intro hh; rw [HNN.out] at hh; simp at hh)) _) | with_reducible exact z5.out)

end Go.Proofs.Ytfkbijkmdnieiaa.PileItem
