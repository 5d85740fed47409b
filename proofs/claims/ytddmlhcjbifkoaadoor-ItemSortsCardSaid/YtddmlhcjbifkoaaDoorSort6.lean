/- Sorting items: Collect, SortedFunc, Sorted give the one sorted list. No conditions. -/
import Derived.Test.YtddmlhcjbifkoaaDoorSort2
import Derived.Test.YtddmlhcjbifkoaaDoorSort5
import Derived.Test.YtddmlhcjbifkoaaDoorShelfS
namespace Go.Proofs.YtddmlhcjbifkoaaDoor.Sort
set_option linter.unusedVariables false
open Go Go.RowKit Go.Lib Go.Shelf Go.Proofs.YtddmlhcjbifkoaaDoor.Mem Go.Proofs.YtddmlhcjbifkoaaDoor.Item Go.Proofs.YtddmlhcjbifkoaaDoor.PItemSorts Go.Proofs.YtddmlhcjbifkoaaDoorW.PrintWords Go.Proofs.YtddmlhcjbifkoaaDoorW.PrintLast
theorem spot_none {w : World} {a : Addr} {v : Value} (h : w.cell? a = some v) : a = ⟨a.block, a.off, none⟩ := by
  cases a with
  | mk b o s =>
    cases s with
    | none => rfl
    | some s =>
      unfold World.cell? at h
      split at h
      · simp at h
      · cases h
theorem items_of_C {w : World} {A : Option Addr} {n : Nat} {l : List (Int × Int)} (h : Kd.C k41 w A n (l.map toS)) (hn : n = l.length) : Items w.heap.size w A l := by
  cases l with
  | nil => exact .inl rfl
  | cons o t =>
    obtain ⟨ad, rfl, h0, h1⟩ := at_I h (i := 0) (by rw [hn]; simp) (rfl : (o :: t)[0]? = some o)
    rw [Nat.zero_mul, Addr.add_zero'] at h0
    obtain ⟨b, off, rfl⟩ : ∃ b off, ad = ⟨b, off, none⟩ := ⟨_, _, spot_none h0⟩
    refine .inr ⟨b, off, rfl, block_lt_of_cell h0, fun j hj => ?_⟩
    have hx : (o :: t)[j]? = some ((o :: t).getD j (0, 0)) := by rw [List.getD_eq_getElem?_getD, List.getElem?_eq_getElem hj]; rfl
    obtain ⟨ad, e, r0, r1⟩ := at_I h (i := j) (by omega) hx
    cases e
    rw [Addr.add_lit] at r0 r1
    exact ⟨r0, r1⟩
theorem collect_calls (Bs cap : Nat) (A : Option Addr) (zs : List (Int × Int)) (hlen : zs.length ≤ 1000000) (w : World) (hBs : Bs < w.heap.size)
    (hc : w.cell? ⟨Bs, 0, none⟩ = some (.slice A zs.length cap)) (hI : Items w.heap.size w A zs) :
    Calls Tryd.prog 82 #[.func (.func 84) #[] #[.pointer (some ⟨Bs, 0, none⟩)]] w fun e W' => ∃ v, e = .returned v ∧ W'.ownsRow w.heap.size 41 2 v zs.length (zs.flatMap cellL) ∧ Below w.heap.size w W' := by
  have hcall := callsIn_wide.1 (appendSeq_in Fence.wide 3 trivial trivial rfl (Nat.le_refl _) Bs cap A zs hlen w hBs hc hI)
  have HC := Lib.hid hcall
  clear hcall hc hI
  go_enter Tryd.func82, Tryd.ntmps82
  go_wp2_with (go_at_call 98; refine HC.out.mono ?_; rintro e w2 ⟨v, rfl, hv, hb⟩; have HV := Lib.hid hv; have HB := Lib.hid hb; clear hv hb)
  go_ret
  exact ⟨v, rfl, HV.out, HB.out⟩
theorem flat_get : ∀ (zs : List (Int × Int)) (j : Nat), j < zs.length * 2 → (zs.flatMap cellL)[j]? = some ((cellL (zs[j / 2]!))[j % 2]!)
  | [], j, h => by simp at h
  | x :: t, j, h => by
    rw [List.flatMap_cons]
    match j, h with
    | 0, _ => rfl
    | 1, _ => rfl
    | j + 2, h =>
      have e : cellL x ++ t.flatMap cellL = .int .i64 x.1 :: .int .i64 x.2 :: t.flatMap cellL := rfl
      rw [e, List.getElem?_cons_succ, List.getElem?_cons_succ, flat_get t j (by simp at h; omega)]
      have h1 : (j + 2) / 2 = j / 2 + 1 := by omega
      have h2 : (j + 2) % 2 = j % 2 := by omega
      rw [h1, h2]
      simp
theorem cellL_len (x : Int × Int) : (cellL x).length = 2 := rfl
theorem cellL_one (x : Int × Int) : ∀ v ∈ cellL x, v.oneCell' = true := by
  intro v hv
  unfold cellL at hv
  simp at hv
  rcases hv with rfl | rfl <;> rfl
theorem holds_of_owns {w : World} {base g cap : Nat} {cur : Array Value} {zs : List (Int × Int)} (hb : w.heap[g]? = some (.cells cur 41 (0, 0))) (ht : cur.toList.take (zs.length * 2) = zs.flatMap cellL) : Sort.HoldsK cellL 2 w g 0 zs.toArray := by
  intro j hj
  rw [Sort.size_flatK] at hj
  rw [Sort.get_flatK _ _ _ _ hj]
  simp only [List.size_toArray] at hj
  refine ⟨?_, by simp [World.frozen?, hb]⟩
  have h1 := flat_get zs j hj
  rw [← ht, List.getElem?_take, if_pos hj] at h1
  have e : (zs.toArray)[j / 2]! = zs[j / 2]! := by simp
  rw [e]
  simp only [World.cell?, hb, Nat.zero_add]
  rw [← Array.getElem?_toList]
  simpa using h1
theorem C_of_holds {w : World} {R : Nat} {l : List (Int × Int)} (h : Sort.HoldsK cellL 2 w R 0 l.toArray) (hl : l.length ≤ 1000000) : Kd.C k41 w (some ⟨R, 0, none⟩) l.length (l.map toS) := by
  refine ⟨by rw [List.length_map], by omega, fun _ => ⟨⟨R, 0, none⟩, rfl, fun j p hj => ?_⟩⟩
  rw [List.getElem?_map] at hj
  cases hx : l[j]? with
  | none => rw [hx] at hj; cases hj
  | some x =>
    rw [hx] at hj; injection hj with hj; subst hj
    obtain ⟨hjl, he⟩ := List.getElem?_eq_some_iff.1 hx
    have hx' : l.toArray[j]! = x := by rw [getElem!_pos l.toArray j (by simpa using hjl)]; simpa using he
    refine ⟨cellL x, rfl, k41_mk w (toS x), fun i u hi => ?_⟩
    have hi2 : i < 2 := by have := (List.getElem?_eq_some_iff.1 hi).1; rwa [cellL_len] at this
    have := Sort.HoldsK.cell h (by simpa using hjl) hi2
    rw [hx'] at this
    obtain ⟨hil, hiu⟩ := List.getElem?_eq_some_iff.1 hi
    have hiu' : (cellL x)[i]! = u := by rw [getElem!_pos (cellL x) i hil]; exact hiu
    rw [hiu'] at this
    have ha := this.1
    have hs : k41.sz = 2 := rfl
    rw [hs, Addr.add_lit]
    have e : (⟨R, 0 + (j * 2 + i), none⟩ : Addr) = ⟨R, 0 + j * 2 + i, none⟩ := by rw [Nat.add_assoc]
    rw [e]
    exact ha
theorem lt_I (x y : Int × Int) : ltOf cmI x y = !leI y x := by
  have h1 := cmI_neg x y
  have h2 := leI_iff y x
  have h3 := leI_false y x
  unfold ltOf
  cases h : leI y x
  · rw [h3] at h
    exact decide_eq_true (h1.2 (by omega))
  · rw [h2] at h
    exact decide_eq_false (fun h' => by have := h1.1 h'; omega)
theorem swoI : Sort.SWO (ltOf cmI) := ⟨fun x => by rw [lt_I, leI_refl]; rfl, fun x y z h1 h2 => by rw [lt_I] at *; simp only [Bool.not_eq_true', leI_false] at *; omega, fun x y z h1 h2 => by rw [lt_I] at *; simp only [Bool.not_eq_false', leI_iff] at *; omega⟩
theorem sort_is (l : List (Int × Int)) : (l.toArray.toList.mergeSort fun x y => !(ltOf cmI) y x) = sortI l := by
  unfold sortI
  congr 1
  funext x y
  rw [lt_I, Bool.not_not]
theorem isAgg_e : ∀ w, (isAgg (Tryd.lSort_ren.t 24)).run Tryd.prog w = .ok true w := Tryd.isAgg41
theorem sizeOf_e : ∀ w, (Go.sizeOf (Tryd.lSort_ren.t 24)).run Tryd.prog w = .ok 2 w := Tryd.sizeOf41
theorem cmpL (blk off size : Nat) (w : World) : CmpLays Tryd.prog 25 #[] cellL 2 cmI blk off size w :=
  fun _ _ _ _ x y => closureI x.1 x.2 y.1 y.2 _
theorem chg_sort (w : World) (R n : Nat) (d : Array (Int × Int)) (os : Array Obj) : Chg (fun k => k = R) w (sortWorldK cellL 2 w R 0 n d os) :=
  ⟨rfl, rfl, rfl, size_sortWorldK_c cellL 2 w R 0 n d os, fun k hk hn => by
    unfold sortWorldK Sort.grow Sort.putRowK Sort.putRow Sort.mapBlock Sort.ahead
    simp only
    rw [Array.getElem?_append_left (by simpa using hk), Array.getElem?_modify, if_neg (fun e => hn e.symm)]⟩
/-- SortFunc, at a row that was gathered. -/
theorem sortFunc_calls {W : World} {base : Nat} {v : Value} {zs : List (Int × Int)} (hlen : zs.length ≤ 1000) (h : W.ownsRow base 41 2 v zs.length (zs.flatMap cellL)) :
    ∃ A c, v = .slice A zs.length c ∧ zs.length ≤ c ∧ Calls Tryd.prog 83 #[v, .func (.func 25) #[] #[]] W fun e w' => e = .returned (.tuple #[]) ∧ Kd.C k41 w' A zs.length ((sortI zs).map toS) ∧ (base ≤ W.heap.size → Below base W w') := by
  obtain ⟨_, ⟨rfl, h0⟩ | ⟨g, cap, cur, rfl, hg, hb, hcap, _, _, ht⟩⟩ := h
  · obtain rfl : zs = [] := List.length_eq_zero_iff.1 h0
    refine ⟨none, 0, rfl, Nat.le_refl _, ?_⟩
    have hsf := Go.Proofs.AnyF.slices_SortFunc_none Tryd.lSort none 0 (.func (.func 25) #[] #[]) W
    change Calls Tryd.prog 83 _ _ _ at hsf
    refine hsf.mono ?_
    rintro e w' ⟨rfl, rfl⟩
    have e0 : sortI [] = [] := List.eq_nil_of_length_eq_zero (sortI_length [])
    exact ⟨rfl, ⟨by rw [e0]; rfl, Nat.zero_le _, fun h => absurd h (by simp)⟩, fun _ => Below.refl _ _⟩
  · refine ⟨some ⟨g, 0, none⟩, cap, rfl, hcap, ?_⟩
    have eg : ∀ args w, (callFunc 25 args).run Tryd.prog w = .ok (.enter 25 args) w := enters_of Tryd.func25 (by kernel_rfl) rfl
    have hH : Sort.HoldsK cellL 2 W g 0 zs.toArray := holds_of_owns (base := base) (cap := cap) hb ht
    have hsf := Go.Proofs.AnyQ.slices_SortFunc_total Tryd.lSort 2 isAgg_e sizeOf_e cellL cellL_len cellL_one cmI swoI 25 #[] g 0 cap zs.toArray W eg (cmpL _ _ _ _) hH (lt_of_block hb) (by rw [List.size_toArray]; omega)
      (fun x y h1 h2 => leI_anti (by rw [lt_I] at h2; simpa using h2) (by rw [lt_I] at h1; simpa using h1))
    rw [sort_is] at hsf
    change Calls Tryd.prog 83 #[.slice (some ⟨g, 0, none⟩) zs.length cap, .func (.func 25) #[] #[]] W _ at hsf
    refine hsf.mono ?_
    rintro e w' ⟨rfl, n, os, rfl⟩
    have hle := sortI_length zs
    refine ⟨rfl, ?_, fun hbW => ?_⟩
    · have := C_of_holds (holdsK_sortWorldK_c cellL 2 W g 0 _ (sortI zs).toArray n os hH (lt_of_block hb) (by simp [hle])) (by omega)
      rwa [hle] at this
    · exact Chg.onto (Below.refl base W) (chg_sort W g n _ os) hbW (fun k hk e => by omega)
set_option maxRecDepth 100000 in
set_option maxHeartbeats 4000000 in
theorem sortedFunc_calls (Bs cap : Nat) (A : Option Addr) (zs : List (Int × Int)) (hlen : zs.length ≤ 1000) (w : World) (hBs : Bs < w.heap.size)
    (hc : w.cell? ⟨Bs, 0, none⟩ = some (.slice A zs.length cap)) (hI : Items w.heap.size w A zs) :
    Calls Tryd.prog 65 #[.func (.func 84) #[] #[.pointer (some ⟨Bs, 0, none⟩)], .func (.func 25) #[] #[]] w fun e W' => ∃ B c, e = .returned (.slice B zs.length c) ∧ zs.length ≤ c ∧ Kd.C k41 W' B zs.length ((sortI zs).map toS) ∧ Below w.heap.size w W' := by
  have HC := Lib.hid (collect_calls Bs cap A zs (by omega) w hBs hc hI)
  have HL := Lib.hid hlen
  clear hc hI hlen
  go_enter Tryd.func65, Tryd.ntmps65
  go_wp2_with (first
    | (go_at_call 82; refine HC.out.mono ?_; rintro e w2 ⟨v, rfl, hv, hb⟩; obtain ⟨B, c, hve, hcc, hsf⟩ := sortFunc_calls HL.out hv; subst hve; have HS := Lib.hid hsf; have HB := Lib.hid hb; have Hcc := Lib.hid hcc; clear hv hb hsf hcc)
    | (go_at_call 83; refine HS.out.mono ?_; rintro e w3 ⟨rfl, hk, hb⟩; have HK := Lib.hid hk; have HB3 := Lib.hid (HB.out.trans (hb HB.out.size)); clear hk hb HB HS))
  go_ret
  exact ⟨B, c, rfl, Hcc.out, HK.out, HB3.out⟩
set_option maxRecDepth 100000 in
set_option maxHeartbeats 4000000 in
theorem sorted_calls (A : Option Addr) (c n : Nat) (l : List (Int × Int)) (w : World) (hC : Kd.C k41 w A n (l.map toS)) (hn : n = l.length) (hl : l.length ≤ 100) :
    Calls Tryd.prog 44 #[.slice A n c] w fun e w' => ∃ B c', e = .returned (.slice B n c') ∧ n ≤ c' ∧ Kd.C k41 w' B n ((sortI l).map toS) ∧ Below w.heap.size w w' := by
  subst hn
  have hI := items_of_C hC rfl
  have HB0 : Hid (Below w.heap.size w (w.alloc (.cells #[.slice A l.length c] 63))) := Lib.hid ((Below.refl _ _).alloc (Nat.le_refl _) _)
  have hS := sortedFunc_calls w.heap.size c A l (by omega) (w.alloc (.cells #[.slice A l.length c] 63)) (by simp) ((Blk.new w #[.slice A l.length c] 63).cell (j := 0) rfl)
    (by rcases hI.below HB0.out with h | ⟨b, off, e, hb, hc⟩
        · exact .inl h
        · exact .inr ⟨b, off, e, Nat.lt_of_lt_of_le hb HB0.out.size, hc⟩)
  have HV := Lib.hid (fun W => callsIn_wide.1 (values_in Fence.wide 0 trivial rfl A l.length c W))
  have HS := Lib.hid hS
  clear hS hI hC hl
  go_enter Tryd.func44, Tryd.ntmps44
  go_wp2_with (first
    | (go_at_call 66; refine (HV.out _).mono ?_; rintro e w2 ⟨rfl, rfl⟩)
    | (go_at_call 65; refine HS.out.mono ?_; rintro e w3 ⟨B, c', rfl, hcc, hk, hb⟩; have HK := Lib.hid hk; have Hcc := Lib.hid hcc; have HB3 := Lib.hid (HB0.out.trans (hb.mono HB0.out.size)); clear hk hb HS hcc))
  go_ret
  exact ⟨B, c', rfl, Hcc.out, HK.out, HB3.out⟩
end Go.Proofs.YtddmlhcjbifkoaaDoor.Sort
