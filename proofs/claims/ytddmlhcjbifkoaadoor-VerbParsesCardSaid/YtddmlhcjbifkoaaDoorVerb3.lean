/- The program's words on numbers and handles. No conditions. -/
import Derived.Test.YtddmlhcjbifkoaaDoorVerb2
import Derived.Test.YtddmlhcjbifkoaaDoorItem3
import Derived.Test.YtddmlhcjbifkoaaDoorSq
namespace Go.Proofs.YtddmlhcjbifkoaaDoor.Verb
open Go.Lib Go.RowKit Go.Proofs.YtddmlhcjbifkoaaDoor.Mem Go.Proofs.YtddmlhcjbifkoaaDoorW.PrintWords Go.Proofs.YtddmlhcjbifkoaaDoor.Item

set_option maxRecDepth 100000 in
theorem number_ (n : Int) (w : World) (hn : In64 n) (he : Env w) : Calls Tryd.prog 34 #[.int .i64 n] w fun e w' => e = .returned (.string (mk (itoa n))) ∧ Below w.heap.size w w' := by
  have C := Lib.hid (itoa_calls n w hn he)
  generalize mk (itoa n) = t at *
  clear he hn
  go_enter Tryd.func34, Tryd.ntmps34
  go_wp2_with fail
  refine C.out.mono ?_
  rintro e w' ⟨rfl, hb⟩
  have HB := Lib.hid hb
  clear hb C
  go_wp2_with fail
  go_ret
  exact ⟨rfl, HB.out⟩

theorem hText_mk (i g : Int) : (mk (itoa i) ++ (⟨#[46]⟩ : ByteArray)) ++ mk (itoa g) = mk (hText i g) := by
  rw [show (⟨#[46]⟩ : ByteArray) = mk [46] from rfl, mk_append, mk_append]; unfold hText; simp
set_option maxRecDepth 100000 in
set_option maxHeartbeats 1000000 in
theorem handle_ (i g : Int) (w : World) (hi : In64 i) (hg : In64 g) (he : Env w) :
    Calls Tryd.prog 36 #[.agg #[.int .i64 i, .int .i64 g]] w fun e w' => e = .returned (.string (mk (handleTxt i g))) ∧ Below w.heap.size w w' := by
  have hu50 := Tryd.underlying50
  by_cases h0 : i < 0
  · have E : Hid (mk (handleTxt i g) = (⟨#[]⟩ : ByteArray)) := Lib.hid (by unfold handleTxt; rw [if_pos (Or.inl h0)]; rfl)
    have t0 : decide (i < 0) = true := decide_eq_true h0
    clear he hi hg h0
    go_enter Tryd.func36, Tryd.ntmps36
    go_wp2_with fail
    go_ret
    exact ⟨by rw [E.out]; rfl, (Below.refl _ _).alloc (Nat.le_refl _) _⟩
  have t0 : decide (i < 0) = false := decide_eq_false h0
  by_cases h1 : g < 0
  · have E : Hid (mk (handleTxt i g) = (⟨#[]⟩ : ByteArray)) := Lib.hid (by unfold handleTxt; rw [if_pos (Or.inr h1)]; rfl)
    have t1 : decide (g < 0) = true := decide_eq_true h1
    clear he hi hg h0 h1
    go_enter Tryd.func36, Tryd.ntmps36
    go_wp2_with fail
    go_ret
    exact ⟨by rw [E.out]; rfl, (Below.refl _ _).alloc (Nat.le_refl _) _⟩
  have t1 : decide (g < 0) = false := decide_eq_false h1
  have CA : Hid (∀ w1, Below w.heap.size w w1 → Calls Tryd.prog 34 #[.int .i64 i] w1 fun e w' => e = .returned (.string (mk (itoa i))) ∧ Below w1.heap.size w1 w') := Lib.hid (fun w1 hb => number_ i w1 hi (he.step hb))
  have CG : Hid (∀ w1, Below w.heap.size w w1 → Calls Tryd.prog 34 #[.int .i64 g] w1 fun e w' => e = .returned (.string (mk (itoa g))) ∧ Below w1.heap.size w1 w') := Lib.hid (fun w1 hb => number_ g w1 hg (he.step hb))
  have E : Hid ((mk (itoa i) ++ (⟨#[46]⟩ : ByteArray)) ++ mk (itoa g) = mk (handleTxt i g)) := Lib.hid (by unfold handleTxt; rw [if_neg (by omega), hText_mk])
  have l1 : (mk (itoa i)).size ≤ 20 := by rw [mk_size]; exact itoa_len hi
  have l2 : (mk (itoa g)).size ≤ 20 := by rw [mk_size]; exact itoa_len hg
  have l3 : (mk (itoa i) ++ (⟨#[46]⟩ : ByteArray)).size ≤ 21 := by
    rw [show (⟨#[46]⟩ : ByteArray) = mk [46] from rfl, mk_append, mk_size, List.length_append]
    have := itoa_len hi
    simp; omega
  generalize mk (itoa i) = ti at *
  generalize mk (itoa g) = tg at *
  have l4 : ti.size + 1 ≤ 9223372036854775807 := by omega
  have l5 : (ti ++ (⟨#[46]⟩ : ByteArray)).size + tg.size ≤ 9223372036854775807 := by omega
  clear he hi hg h0 h1
  go_enter Tryd.func36, Tryd.ntmps36
  go_wp2_with fail
  have HX : Hid (Blk (w.alloc (Obj.cells #[Value.int .i64 i, .int .i64 g] 50)).drew w.heap.size #[.int .i64 i, .int .i64 g] 50) := Lib.hid (Blk.new _ _ _).drew
  have HB : Hid (Below w.heap.size w (w.alloc (Obj.cells #[Value.int .i64 i, .int .i64 g] 50)).drew) := Lib.hid ((Below.refl _ _).alloc (Nat.le_refl _) _).drew
  refine Sq.region_ (fun w' => w'.cell? ⟨w.heap.size, 0, none⟩ = some (.int .i64 i) ∧ w'.cell? ⟨w.heap.size, 1, none⟩ = some (.int .i64 g)) [2, 6] [(0, some 11), (1, some 12), (4, some 15), (5, some 16), (2, some 13), (3, some 14), (6, some 17), (7, some 18), (8, some 2)] (by kernel_rfl) rfl (by kernel_rfl) (fun _ _ N _ _ h => by cases N <;> exact h) ⟨HX.out.cell (j := 0) rfl, HX.out.cell (j := 1) rfl⟩ (fun hHeld => ?_)
  generalize (w.alloc (Obj.cells #[Value.int .i64 i, .int .i64 g] 50)).drew = wd at *
  repeat (first | (refine Sq.q_ (v := ?_) (a' := ?_) rfl rfl rfl (by rfl) ?_ ?_ ?_; rotate_left 2; (· (rintro w' ⟨s0, s1⟩; go_simp; (first | with_reducible rfl | rw [if_neg (by omega)]))); (· (simp only [Act.put, List.setIfInBounds_toArray, List.set_cons_zero, List.set_cons_succ]; rfl))) | (refine Sq.o_ (a' := ?_) rfl rfl rfl (by rfl) ?_ ?_; rotate_left 1; (· (simp only [Act.put, List.setIfInBounds_toArray, List.set_cons_zero, List.set_cons_succ]; rfl))))
  refine Sq.c_ #[.int .i64 i] Tryd.func34 (by kernel_rfl) rfl rfl rfl rfl (by rfl) rfl (by (try simp only [List.map_toArray, List.map_cons, List.map_nil]); first | done | rfl) ?_
  refine (CA.out _ HB.out).mono ?_
  rintro e w1 ⟨rfl, hb⟩
  have HX' := Lib.hid (HX.out.below hb)
  have HB' := Lib.hid (HB.out.trans (hb.mono HB.out.size))
  clear hb HX HB
  have HX := HX'
  have HB := HB'
  clear HX' HB'
  refine ⟨_, ?_, rfl, ?_, ⟨HX.out.cell (j := 0) rfl, HX.out.cell (j := 1) rfl⟩, fun hHeld' => ?_⟩
  rotate_left 1
  (· (simp only [Act.put, List.setIfInBounds_toArray, List.set_cons_zero, List.set_cons_succ]; rfl))
  clear hHeld
  have hHeld := hHeld'
  clear hHeld'
  repeat (first | (refine Sq.q_ (v := ?_) (a' := ?_) rfl rfl rfl (by rfl) ?_ ?_ ?_; rotate_left 2; (· (rintro w' ⟨s0, s1⟩; go_simp; (first | with_reducible rfl | rw [if_neg (by omega)]))); (· (simp only [Act.put, List.setIfInBounds_toArray, List.set_cons_zero, List.set_cons_succ]; rfl))) | (refine Sq.o_ (a' := ?_) rfl rfl rfl (by rfl) ?_ ?_; rotate_left 1; (· (simp only [Act.put, List.setIfInBounds_toArray, List.set_cons_zero, List.set_cons_succ]; rfl))))
  refine Sq.c_ #[.int .i64 g] Tryd.func34 (by kernel_rfl) rfl rfl rfl rfl (by rfl) rfl (by (try simp only [List.map_toArray, List.map_cons, List.map_nil]); first | done | rfl) ?_
  refine (CG.out _ HB.out).mono ?_
  rintro e w2 ⟨rfl, hb⟩
  have HX' := Lib.hid (HX.out.below hb)
  have HB' := Lib.hid (HB.out.trans (hb.mono HB.out.size))
  clear hb HX HB
  have HX := HX'
  have HB := HB'
  clear HX' HB'
  refine ⟨_, ?_, rfl, ?_, ⟨HX.out.cell (j := 0) rfl, HX.out.cell (j := 1) rfl⟩, fun hHeld' => ?_⟩
  rotate_left 1
  (· (simp only [Act.put, List.setIfInBounds_toArray, List.set_cons_zero, List.set_cons_succ]; rfl))
  clear hHeld
  have hHeld := hHeld'
  clear hHeld'
  repeat (first | (refine Sq.q_ (v := ?_) (a' := ?_) rfl rfl rfl (by rfl) ?_ ?_ ?_; rotate_left 2; (· (rintro w' ⟨s0, s1⟩; go_simp; (first | with_reducible rfl | rw [if_neg (by omega)]))); (· (simp only [Act.put, List.setIfInBounds_toArray, List.set_cons_zero, List.set_cons_succ]; rfl))) | (refine Sq.o_ (a' := ?_) rfl rfl rfl (by rfl) ?_ ?_; rotate_left 1; (· (simp only [Act.put, List.setIfInBounds_toArray, List.set_cons_zero, List.set_cons_succ]; rfl))))
  refine Sq.e_ ?_
  go_wp2_with fail
  go_ret
  exact ⟨by rw [← E.out]; rfl, HB.out⟩

set_option maxRecDepth 100000 in
set_option maxHeartbeats 1000000 in
theorem numberOf (s : ByteArray) (w : World) (hs : s.size ≤ 1000000) (he : Env w) :
    Calls Tryd.prog 79 #[.string s] w fun e w' => e = .returned (.tuple #[.int .i64 (numR (num s.data.toList)).1, .bool (numR (num s.data.toList)).2]) ∧ Below w.heap.size w w' := by
  have CA := Lib.hid (atoi s w hs he)
  have CN : Hid (∀ n w1, In64 n → Below w.heap.size w w1 → Calls Tryd.prog 34 #[.int .i64 n] w1 fun e w' => e = .returned (.string (mk (itoa n))) ∧ Below w1.heap.size w1 w') := Lib.hid (fun n w1 hn hb => number_ n w1 hn (he.step hb))
  clear he hs
  go_enter Tryd.func79, Tryd.ntmps79
  go_wp2_with fail
  refine CA.out.mono ?_
  rintro e w1 ⟨⟨v, ev, rfl, hv, hc⟩, hb⟩
  have HB := Lib.hid hb
  clear hb CA
  rcases hc with ⟨rfl, ha⟩ | ⟨⟨pa, rfl⟩, ha⟩
  · by_cases ht : itoa v = s.data.toList
    · have HR : Hid (num s.data.toList = some v) := Lib.hid (by rw [← ht]; exact num_itoa hv)
      have hS : mk (itoa v) = s := by rw [ht, Item.mk_data]
      have CN' := Lib.hid (CN.out v w1 hv HB.out)
      rw [hS] at CN'
      clear ht ha CN hv hS
      go_wp2_with fail
      refine CN'.out.mono ?_
      rintro e w2 ⟨rfl, hb⟩
      have HB2 := Lib.hid (HB.out.trans (hb.mono HB.out.size))
      clear hb CN' HB
      go_wp2_with fail
      go_ret2
      exact ⟨by rw [HR.out]; rfl, HB2.out⟩
    · have HR : Hid (num s.data.toList = none) := Lib.hid (by unfold num; rw [ha]; exact if_neg ht)
      have hne : ((mk (itoa v)).toList == s.toList) = false := beq_eq_false_iff_ne.2 (fun h => ht (by have := toList_inj.1 h; rw [← this, mk_toList]))
      have CN' := Lib.hid (CN.out v w1 hv HB.out)
      generalize mk (itoa v) = tt at *
      clear ht ha CN hv
      go_wp2_with fail
      refine CN'.out.mono ?_
      rintro e w2 ⟨rfl, hb⟩
      have HB2 := Lib.hid (HB.out.trans (hb.mono HB.out.size))
      clear hb CN' HB
      go_wp2_with fail
      go_ret2
      exact ⟨by rw [HR.out]; rfl, HB2.out⟩
  · have HR : Hid (num s.data.toList = none) := Lib.hid (by
      unfold num
      split
      · rename_i v' hv'; exact absurd hv' (ha v')
      · rfl)
    clear ha CN hv
    go_wp2_with fail
    go_ret2
    exact ⟨by rw [HR.out]; rfl, HB.out⟩
end Go.Proofs.YtddmlhcjbifkoaaDoor.Verb
