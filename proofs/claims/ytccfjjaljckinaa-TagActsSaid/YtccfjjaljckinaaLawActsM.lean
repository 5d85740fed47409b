/- Whatever is issued, dropped, revived and moved: the law, walked. No conditions. -/
import Derived.Test.YtccfjjaljckinaaMi
import Derived.LoopTactic
namespace Go.Proofs.Ytccfjjaljckinaa.Tag
open Go.RowKit Go.Lib Go.Shelf Go.Proofs.Ytccfjjaljckinaa.Mem Go.Proofs.Ytccfjjaljckinaa.IMap Go.Proofs.YtccfjjaljckinaaW.PrintWords Go.Proofs.YtccfjjaljckinaaW.PrintLast Go.Proofs.YtccfjjaljckinaaW.PrintMore Go.Proofs.Ytccfjjaljckinaa.PTagActs
set_option linter.unusedVariables false

theorem refAt_' {w : World} {A : Option Addr} {c : Nat} {l : List Listed} (h : Kd.C k34 w A l.length (sL l)) (hc : l.length ≤ c) (hl : l.length ≤ 1000000) (x : Int) {I : Int} (hI : idxI (fun y => y.o.time == x) l = I) :
    Calls Try.prog 27 #[.slice A l.length c, .int .i64 x] w fun e w' => e = .returned (.int .i64 I) ∧ ∃ k, w' = w.drewN k := by
  subst hI
  exact refAt_ h hc hl x
theorem refOf_' {w : World} {A : Option Addr} {c : Nat} {l : List Listed} (h : Kd.C k34 w A l.length (sL l)) (hc : l.length ≤ c) (hl : l.length ≤ 1000000) (r : Ref) {I : Int} (hI : idxI (hasRef r) l = I) :
    Calls Try.prog 26 #[.slice A l.length c, .agg #[.int .i64 r.i, .int .i64 r.g]] w fun e w' => e = .returned (.int .i64 I) ∧ Below w.heap.size w w' := by
  subst hI
  exact refOf_ h hc hl r

set_option maxRecDepth 100000 in
set_option maxHeartbeats 1000000 in
theorem acts_long (c0 : Int) (A : Option Addr) (len cap : Nat) (w : World) (hbig : 50 < len) :
    Calls Try.prog 6 #[.int .i64 c0, .slice A len cap] w fun e w' => e = .returned (.bool true) ∧ Below w.heap.size w w' := by
  have t1 : decide ((len : Int) > 50) = true := decide_eq_true (by omega)
  go_enter Try.func6, Try.ntmps6
  go_wp2_with fail
  refine (awake _).mono ?_
  rintro e w1 ⟨rfl, hb1⟩
  have HB1 := Lib.hid hb1; clear hb1
  go_wp2_with fail
  refine (awake _).mono ?_
  rintro e w2 ⟨rfl, hb2⟩
  have HB2 := Lib.hid hb2; clear hb2
  go_wp2_with fail
  go_ret
  exact ⟨rfl, HB1.out.trans (HB2.out.mono HB1.out.size)⟩
noncomputable def T6_15 : Bool × List (List Nat × List Nat) := rtab .any (opsOf Try.f6 15)
theorem tab6_15 : rtab .any (opsOf Try.f6 15) = T6_15 := rfl
theorem bits6_15 : waitsOk T6_15.2 [0, 1, 3, 7, 0, 31, 63] = true := by kernel_rfl
noncomputable def T6_19 : Bool × List (List Nat × List Nat) := rtab .any (opsOf Try.f6 19)
theorem tab6_19 : rtab .any (opsOf Try.f6 19) = T6_19 := rfl
theorem bits6_19 : waitsOk T6_19.2 [0, 1, 3, 7, 0, 0, 48, 112, 240, 496, 1008, 2047, 4095] = true := by kernel_rfl

set_option maxRecDepth 100000 in
set_option maxHeartbeats 40000000 in
theorem acts_short (c0 : Int) (A : Option Addr) (cap : Nat) (acts : List Act) (w : World) (hc : Acts w A acts) (hf : FitsA acts) (hl : acts.length ≤ 50) :
    Calls Try.prog 6 #[.int .i64 c0, .slice A acts.length cap] w fun e w' => e = .returned (.bool true) ∧ Below w.heap.size w w' := by
  have HAc := Lib.hid hc
  have HFi := Lib.hid hf
  have hu36 := Try.underlying36
  have hu34 := Try.underlying34
  have hu32 := Try.underlying32
  have hu30 := Try.underlying30
  have hu28 := Try.underlying28
  have hu49 := Try.underlying49
  clear hc hf
  have t1 : decide ((acts.length : Int) > 50) = false := decide_eq_false (by omega)
  go_enter Try.func6, Try.ntmps6
  go_wp2_with fail
  refine (awake _).mono ?_
  rintro e w1 ⟨rfl, hb1⟩
  have HB1 := Lib.hid hb1
  have z1 := hb1.size
  clear hb1
  go_wp2_with fail
  refine (newAt c0 w1).mono ?_
  rintro e w2 ⟨rfl, ht, hb⟩
  have HT2 := Lib.hid ht
  have HB2 : Hid (Below w.heap.size w w2) := Lib.hid (HB1.out.trans (hb.mono z1))
  have z2 := hb.size
  have HBl := Lib.hid ht.ltB
  clear ht hb HB1
  go_wp2_with fail
  refine (refCap c0 _).mono ?_
  rintro e w3 ⟨rfl, q3, rfl⟩
  generalize hcc : capC c0 = cc
  have HCc := Lib.hid hcc
  clear hcc
  go_wp2_with fail
  generalize hn : acts.length = n at *
  have HN := Lib.hid hn
  clear hn
  refine gwP (fun w4 hw4 => ?_)
  have HB4 : Hid (Below w2.heap.size w2 w4) := Lib.hid (by rw [← hw4]; exact (bdn (Below.refl _ _) q3).alloc (Nat.le_refl _) _)
  have HD4 : Hid (Blk w4 w2.heap.size #[.int .i64 cc, .int .i64 0, .slice none 0 0, .slice none 0 0] 49) := Lib.hid (by rw [← hw4]; exact Blk.at_ (by simp) _ _)
  have HB : Hid (Below w.heap.size w w4) := Lib.hid (HB2.out.trans (HB4.out.mono HB2.out.size))
  have HDu : Hid (Duo w.heap.size 0 w4 (fun k => w1.heap.size ≤ k ∧ k < w2.heap.size) (fun _ => False) (fun _ => False) (w1.heap.size + 1) w2.heap.size (newT c0) (newR c0) none 0 []) := Lib.hid ⟨HT2.out.below HB4.out, newRef (by rw [HCc.out]; exact HD4.out), newRel c0, Kd.F_nil _ _ _, Nat.le_refl _, fun k hk => ⟨by omega, by have := HB4.out.size; omega, by omega, fun h => h, fun h => h⟩, fun k hk => hk.elim, HB2.out.size, HB.out.size, Nat.le_refl _, ⟨Int.le_refl _, Int.le_refl _⟩, Nat.le_refl _, fun l hl => (by cases hl)⟩
  clear hw4 HB4 HD4 HB2 HT2
  go_loopw [7, 8] (fun v i wr => ∃ (k : Nat) (O S U : Nat → Prop) (t : Tab) (r : RTab) (A' : Option Addr) (c' : Nat) (told : List Listed), k ≤ n ∧ i = .int .i64 k ∧ v = .slice A' told.length c' ∧ Duo w.heap.size k wr O S U (w1.heap.size + 1) w2.heap.size t r A' c' told ∧ Below w.heap.size w wr) (fun _ i _ => n - (intOf i).toNat)
  case atStart => exact ⟨0, _, _, _, _, _, none, 0, [], Nat.zero_le _, rfl, rfl, HDu.out, HB.out⟩
  case round =>
    clear HDu HB
    obtain ⟨k, O, S, U, t, r, A', c', told, hk, rfl, rfl, hdu, hb⟩ := hrel
    have HDu := Lib.hid hdu
    have HB := Lib.hid hb
    clear hdu hb
    generalize hBB : w1.heap.size + 1 = B at *
    generalize hDD : w2.heap.size = D at *
    clear hBB hDD
    by_cases hlt : k < n
    · obtain ⟨a, ha⟩ : ∃ a, acts[k]? = some a := ⟨_, List.getElem?_eq_getElem (by rw [HN.out]; exact hlt)⟩
      have HA := Lib.hid ha
      obtain ⟨ad, rfl, h0, hcc, hadl⟩ := (HAc.out.below HB.out) k a ha
      have hfit := HFi.out a (List.mem_of_getElem? ha)
      have HDo := Lib.hid (doAt HDu.out a hfit.2.2.2.2 (by omega))
      generalize hcx : doT t told a.kind (pickX told a.kind a.place a.told a.x) = dx at HDo
      obtain ⟨t', told'⟩ := dx
      simp only at HDo
      clear hcx
      obtain ⟨kind, place, tld, ⟨⟨xi, xg⟩, ⟨xt, xn, xk, xd⟩⟩⟩ := a
      have HFit : Hid (In64 xt) := Lib.hid hfit.2.2.2.2.1
      have m0 : wr.cell? (ad.add (k * 9)) = some (.int .i64 kind) := h0
      have m1 := hcc 1 _ rfl
      have m2 := hcc 2 _ rfl
      have m3 := hcc 3 _ rfl
      have m4 := hcc 4 _ rfl
      have m5 := hcc 5 _ rfl
      have m6 := hcc 6 _ rfl
      have m7 := hcc 7 _ rfl
      have m8 := hcc 8 _ rfl
      clear h0 hcc hfit ha
      simp only [] at m1 m2 m3 m4 m5 m6 m7 m8
      have hk0 : (0 : Int) ≤ k := by omega
      have hkn : (k : Int) < n := by omega
      have hkt : ((k : Int)).toNat = k := by omega
      go_wp2_with fail
      refine HDo.out.mono ?_
      rintro e w5 ⟨O', S', U', r', A'', c'', rfl, hdu5, hb5⟩
      have HD5 := Lib.hid hdu5
      have HB5 : Hid (Below w.heap.size w w5) := Lib.hid (HB.out.trans (hb5.mono (Nat.le_refl _)))
      clear hdu5 hb5 HDo HDu m0 m1 m2 m3 m4 m5 m6 m7 m8
      go_wp2_with fail
      refine (alikeAt HD5.out.tab HD5.out.ref HD5.out.rel).mono ?_
      rintro e w6 ⟨rfl, hb6⟩
      have HD6 := Lib.hid (HD5.out.below hb6)
      have HB6 := Lib.hid (HB5.out.trans (hb6.mono HB5.out.size))
      clear hb6 HD5 HB5 HB
      have HDu := HD6
      have HBx := HB6
      clear HD6 HB6
      skip
      rcases HDu.out.rel.find ⟨xi, xg⟩ with ⟨f1, f2⟩ | ⟨kf, o, f1, f2, f3⟩
      · have HFd := Lib.hid f1
        have HFi2 := Lib.hid f2
        clear f1 f2
        obtain ⟨ad6, e6, n0, ncc, nlt⟩ := (HAc.out.below HBx.out) k _ HA.out
        injection e6 with e6
        subst e6
        have n3 := ncc 3 _ rfl
        have n4 := ncc 4 _ rfl
        clear n0 ncc nlt
        simp only [] at n3 n4
        go_wp2_with fail
        refine gw (fun w7 hw7 => ?_)
        have hb : Below w6.heap.size w6 w7 := by rw [← hw7]; exact (Below.refl _ _).alloc (Nat.le_refl _) _
        have HQ : Hid (Blk w7 w6.heap.size #[.int .i64 xi, .int .i64 xg] 28) := Lib.hid (by rw [← hw7]; exact Blk.new _ _ _)
        replace HDu := Lib.hid (HDu.out.below hb)
        replace HBx := Lib.hid (HBx.out.trans (hb.mono HBx.out.size))
        clear hb hw7 n3 n4
        refine (findAt HDu.out.tab ⟨xi, xg⟩).mono ?_
        rintro e w8 ⟨rfl, hb⟩
        replace HDu := Lib.hid (HDu.out.below hb)
        replace HBx := Lib.hid (HBx.out.trans (hb.mono HBx.out.size))
        replace HQ := Lib.hid (HQ.out.below hb)
        clear hb
        rw [HFd.out]
        dsimp only [aggOp]
        simp only [op0]
        go_wp2_with fail
        refine gwP (fun wz hwz => ?_)
        have hb : Below w8.heap.size w8 wz := by rw [← hwz]; exact (Below.refl _ _).alloc (Nat.le_refl _) _
        have HO : Hid (Blk wz w8.heap.size #[.int .i64 0, .bool false, .int .i64 0, .int .i64 0] 32) := Lib.hid (by rw [← hwz]; exact Blk.new _ _ _)
        replace HDu := Lib.hid (HDu.out.below hb)
        replace HBx := Lib.hid (HBx.out.trans (hb.mono HBx.out.size))
        replace HQ := Lib.hid (HQ.out.below hb)
        clear hb hwz
        have hb : Below wz.heap.size wz wz.drew := (Below.refl _ _).drew
        replace HDu := Lib.hid (HDu.out.below hb)
        replace HBx := Lib.hid (HBx.out.trans (hb.mono HBx.out.size))
        replace HQ := Lib.hid (HQ.out.below hb)
        replace HO := Lib.hid (HO.out.below hb)
        clear hb
        obtain ⟨A1, c1, A2, c2, hbD, hc1, hc2, hL1, hL2, hS5⟩ := HDu.out.ref
        have HDb := Lib.hid hbD
        have H2 := Lib.hid hc2
        have HL := Lib.hid hL2
        have hfw := HDu.out.tab.good.few
        have hrl := HDu.out.rel.len
        have hlv := liveN_le t'.slots
        have HLen : Hid (r'.l.length ≤ 1000000) := Lib.hid (by omega)
        clear hbD hc1 hc2 hL1 hL2 hS5 hfw hrl hlv
        refine start_ (n := 7) (S := fun w' => w'.cell? ⟨D, 3, none⟩ = some (.slice A2 r'.l.length c2) ∧ w'.cell? ⟨w6.heap.size, 0, none⟩ = some (.int .i64 xi) ∧ w'.cell? ⟨w6.heap.size, 1, none⟩ = some (.int .i64 xg)) (ds := []) #[false, false, false, false, false, false, false] (by kernel_rfl) rfl rfl ⟨HDb.out.cell (j := 3) rfl, HQ.out.cell (j := 0) rfl, HQ.out.cell (j := 1) rfl⟩ (fun hHeld => ?_); refine with_tabW tab6_15 bits6_15 (fun HT_ HW_ => ?_)
        generalize wz.drew = wd at HDu HBx HQ HO HDb HL hHeld ⊢
        refine pure_ (i := 0) (N := some 67) (v := ?_) (a' := ?_) #[true, false, false, false, false, false, false] rfl rfl (any_of HT_.out (by kernel_rfl)) (fun _ _ _ h => h) (Or.inl ⟨by rfl, ?_⟩) ?_ ?_
        rotate_left
        · intro w'
          go_simp
          with_reducible rfl
        rotate_left
        · simp only [Act.put, List.setIfInBounds_toArray, List.set_cons_zero, List.set_cons_succ]
          rfl
        refine pure_ (i := 1) (N := some 68) (v := ?_) (a' := ?_) #[true, true, false, false, false, false, false] rfl rfl (any_of HT_.out (by kernel_rfl)) (fun _ _ _ h => h) (Or.inl ⟨by rfl, ?_⟩) ?_ ?_
        rotate_left
        · intro w'
          go_simp
          with_reducible rfl
        rotate_left
        · simp only [Act.put, List.setIfInBounds_toArray, List.set_cons_zero, List.set_cons_succ]
          rfl
        refine pure_ (i := 2) (N := some 69) (v := ?_) (a' := ?_) #[true, true, true, false, false, false, false] rfl rfl (any_of HT_.out (by kernel_rfl)) (fun _ _ _ h => h) (Or.inl ⟨by rfl, ?_⟩) ?_ ?_
        rotate_left
        · intro w'
          go_simp
          with_reducible rfl
        rotate_left
        · simp only [Act.put, List.setIfInBounds_toArray, List.set_cons_zero, List.set_cons_succ]
          rfl
        refine take_ (i := 3) (N := some 70) (v := ?_) (a' := ?_) #[true, true, true, true, false, false, false] rfl rfl (take_ofW HT_.out HW_.out (by kernel_rfl)) (fun _ _ _ h => h) (Or.inl ⟨by rfl, ?_⟩) hHeld ?_ ?_
        rotate_left
        · rintro w' ⟨s0, s1, s2⟩
          go_simp
          with_reducible rfl
        rotate_left
        · simp only [Act.put, List.setIfInBounds_toArray, List.set_cons_zero, List.set_cons_succ]
          rfl
        refine take_ (i := 4) (N := some 71) (v := ?_) (a' := ?_) #[true, true, true, true, true, false, false] rfl rfl (take_ofW HT_.out HW_.out (by kernel_rfl)) (fun _ _ _ h => h) (Or.inl ⟨by rfl, ?_⟩) hHeld ?_ ?_
        rotate_left
        · rintro w' ⟨s0, s1, s2⟩
          go_simp
          with_reducible rfl
        rotate_left
        · simp only [Act.put, List.setIfInBounds_toArray, List.set_cons_zero, List.set_cons_succ]
          rfl
        refine one_ (i := 5) (N := some 72) #[true, true, true, true, true, true, false] rfl rfl (one_of HT_.out (by kernel_rfl)) (by decide) (fun K hK => ?_)
        refine goes_ Try.func26 (by kernel_rfl) rfl #[.slice A2 r'.l.length c2, .agg #[.int .i64 xi, .int .i64 xg]] (by rfl) rfl rfl (by (try simp only [List.map_toArray, List.map_cons, List.map_nil]); first | done | rfl) ?_
        refine (refOf_' (Kd.F_now HL.out) H2.out HLen.out ⟨xi, xg⟩ HFi2.out).mono ?_
        rintro e w9 ⟨rfl, hb⟩
        refine ⟨_, rfl, ?_⟩
        replace HDu := Lib.hid (HDu.out.below hb)
        replace HBx := Lib.hid (HBx.out.trans (hb.mono HBx.out.size))
        replace HDb := Lib.hid (HDb.out.below hb)
        replace HL := Lib.hid (Kd.F_below HL.out hb)
        replace HQ := Lib.hid (HQ.out.below hb)
        replace HO := Lib.hid (HO.out.below hb)
        clear hb
        refine hK.out _ _ ⟨HDb.out.cell (j := 3) rfl, HQ.out.cell (j := 0) rfl, HQ.out.cell (j := 1) rfl⟩ (fun hNew => ?_)
        clear hK K hHeld
        have hHeld := hNew
        clear hNew
        refine norm_ (a' := ?_) ?_ ?_
        rotate_left
        · show Act.put _ (some 72) _ = _
          simp only [Act.put, List.setIfInBounds_toArray, List.set_cons_zero, List.set_cons_succ]
          rfl
        refine pure_ (i := 6) (N := some 13) (v := ?_) (a' := ?_) #[true, true, true, true, true, true, true] rfl rfl (any_of HT_.out (by kernel_rfl)) (fun _ _ _ h => h) (Or.inl ⟨by rfl, ?_⟩) ?_ ?_
        rotate_left
        · intro w'
          go_simp
          with_reducible rfl
        rotate_left
        · simp only [Act.put, List.setIfInBounds_toArray, List.set_cons_zero, List.set_cons_succ]
          rfl
        refine done_ (done_of HT_.out (by kernel_rfl)) ?_
        clear hHeld HT_ HW_ HQ
        have p0 := HO.out.cell (j := 0) rfl
        have p1 := HO.out.cell (j := 1) rfl
        have p2 := HO.out.cell (j := 2) rfl
        have p3 := HO.out.cell (j := 3) rfl
        have d3 := HDb.out.cell (j := 3) rfl
        go_wp2_with fail
        go_quiet (fail)
        refine gwE (fun wx hwx => ?_)
        have hb : Below w9.heap.size w9 wx := by rw [← hwx]; exact bdn (Below.refl _ _) _
        replace HDu := Lib.hid (HDu.out.below hb)
        replace HBx := Lib.hid (HBx.out.trans (hb.mono HBx.out.size))
        replace HDb := Lib.hid (HDb.out.below hb)
        replace HL := Lib.hid (Kd.F_below HL.out hb)
        clear hb hwx HO p0 p1 p2 p3 d3
        rcases HDu.out.rel.at_time xt with ⟨f1, f2⟩ | ⟨kk, y, f1, f2, f3⟩
        · have HAt := Lib.hid f1
          have HAi := Lib.hid f2
          clear f1 f2
          obtain ⟨ad6, e6, n0, ncc, nlt⟩ := (HAc.out.below HBx.out) k _ HA.out
          injection e6 with e6
          subst e6
          have n5 := ncc 5 _ rfl
          clear n0 ncc nlt
          simp only [] at n5
          go_wp2_with fail
          refine (atAt HDu.out.tab (x := xt) HFit.out).mono ?_
          rintro e wy ⟨rfl, hb⟩
          replace HDu := Lib.hid (HDu.out.below hb)
          replace HBx := Lib.hid (HBx.out.trans (hb.mono HBx.out.size))
          replace HDb := Lib.hid (HDb.out.below hb)
          replace HL := Lib.hid (Kd.F_below HL.out hb)
          clear hb n5
          rw [HAt.out]
          dsimp only
          go_wp2_with fail
          refine gwP (fun wz hwz => ?_)
          have hb : Below wy.heap.size wy wz := by rw [← hwz]; exact (Below.refl _ _).alloc (Nat.le_refl _) _
          have HP : Hid (Blk wz wy.heap.size #[.int .i64 0, .int .i64 0] 28) := Lib.hid (by rw [← hwz]; exact Blk.new _ _ _)
          replace HDu := Lib.hid (HDu.out.below hb)
          replace HBx := Lib.hid (HBx.out.trans (hb.mono HBx.out.size))
          replace HDb := Lib.hid (HDb.out.below hb)
          replace HL := Lib.hid (Kd.F_below HL.out hb)
          clear hb hwz
          have hb : Below wz.heap.size wz wz.drew := (Below.refl _ _).drew
          replace HDu := Lib.hid (HDu.out.below hb)
          replace HBx := Lib.hid (HBx.out.trans (hb.mono HBx.out.size))
          replace HDb := Lib.hid (HDb.out.below hb)
          replace HL := Lib.hid (Kd.F_below HL.out hb)
          replace HP := Lib.hid (HP.out.below hb)
          clear hb
          obtain ⟨ad6, e6, n0, ncc, nlt⟩ := (HAc.out.below HBx.out) k _ HA.out
          injection e6 with e6
          subst e6
          have n5 := ncc 5 _ rfl
          clear n0 ncc nlt
          simp only [] at n5
          refine start_ (n := 13) (S := fun w' => w'.cell? ⟨D, 3, none⟩ = some (.slice A2 r'.l.length c2) ∧ w'.cell? ⟨(ad.add (k * 9)).block, (ad.add (k * 9)).off + 5, none⟩ = some (.int .i64 xt)) (ds := []) #[false, false, false, false, false, false, false, false, false, false, false, false, false] (by kernel_rfl) rfl rfl ⟨HDb.out.cell (j := 3) rfl, n5⟩ (fun hHeld => ?_); refine with_tabW tab6_19 bits6_19 (fun HT_ HW_ => ?_)
          generalize wz.drew = wd at HDu HBx HDb HL HP n5 hHeld ⊢
          refine pure_ (i := 0) (N := some 113) (v := ?_) (a' := ?_) #[true, false, false, false, false, false, false, false, false, false, false, false, false] rfl rfl (any_of HT_.out (by kernel_rfl)) (fun _ _ _ h => h) (Or.inl ⟨by rfl, ?_⟩) ?_ ?_
          rotate_left
          · intro w'
            go_simp
            with_reducible rfl
          rotate_left
          · simp only [Act.put, List.setIfInBounds_toArray, List.set_cons_zero, List.set_cons_succ]
            rfl
          refine pure_ (i := 1) (N := some 114) (v := ?_) (a' := ?_) #[true, true, false, false, false, false, false, false, false, false, false, false, false] rfl rfl (any_of HT_.out (by kernel_rfl)) (fun _ _ _ h => h) (Or.inl ⟨by rfl, ?_⟩) ?_ ?_
          rotate_left
          · intro w'
            go_simp
            with_reducible rfl
          rotate_left
          · simp only [Act.put, List.setIfInBounds_toArray, List.set_cons_zero, List.set_cons_succ]
            rfl
          refine pure_ (i := 2) (N := some 115) (v := ?_) (a' := ?_) #[true, true, true, false, false, false, false, false, false, false, false, false, false] rfl rfl (any_of HT_.out (by kernel_rfl)) (fun _ _ _ h => h) (Or.inl ⟨by rfl, ?_⟩) ?_ ?_
          rotate_left
          · intro w'
            go_simp
            with_reducible rfl
          rotate_left
          · simp only [Act.put, List.setIfInBounds_toArray, List.set_cons_zero, List.set_cons_succ]
            rfl
          refine pure_ (i := 4) (N := some 117) (v := ?_) (a' := ?_) #[true, true, true, false, true, false, false, false, false, false, false, false, false] rfl rfl (any_of HT_.out (by kernel_rfl)) (fun _ _ _ h => h) (Or.inl ⟨by rfl, ?_⟩) ?_ ?_
          rotate_left
          · intro w'
            go_simp
            with_reducible rfl
          rotate_left
          · simp only [Act.put, List.setIfInBounds_toArray, List.set_cons_zero, List.set_cons_succ]
            rfl
          refine pure_ (i := 5) (N := some 118) (v := ?_) (a' := ?_) #[true, true, true, false, true, true, false, false, false, false, false, false, false] rfl rfl (any_of HT_.out (by kernel_rfl)) (fun _ _ _ h => h) (Or.inl ⟨by rfl, ?_⟩) ?_ ?_
          rotate_left
          · intro w'
            go_simp
            with_reducible rfl
          rotate_left
          · simp only [Act.put, List.setIfInBounds_toArray, List.set_cons_zero, List.set_cons_succ]
            rfl
          refine pure_ (i := 6) (N := some 119) (v := ?_) (a' := ?_) #[true, true, true, false, true, true, true, false, false, false, false, false, false] rfl rfl (any_of HT_.out (by kernel_rfl)) (fun _ _ _ h => h) (Or.inl ⟨by rfl, ?_⟩) ?_ ?_
          rotate_left
          · intro w'
            go_simp
            with_reducible rfl
          rotate_left
          · simp only [Act.put, List.setIfInBounds_toArray, List.set_cons_zero, List.set_cons_succ]
            rfl
          refine pure_ (i := 7) (N := some 120) (v := ?_) (a' := ?_) #[true, true, true, false, true, true, true, true, false, false, false, false, false] rfl rfl (any_of HT_.out (by kernel_rfl)) (fun _ _ _ h => h) (Or.inl ⟨by rfl, ?_⟩) ?_ ?_
          rotate_left
          · intro w'
            go_simp
            with_reducible rfl
          rotate_left
          · simp only [Act.put, List.setIfInBounds_toArray, List.set_cons_zero, List.set_cons_succ]
            rfl
          refine pure_ (i := 8) (N := some 121) (v := ?_) (a' := ?_) #[true, true, true, false, true, true, true, true, true, false, false, false, false] rfl rfl (any_of HT_.out (by kernel_rfl)) (fun _ _ _ h => h) (Or.inl ⟨by rfl, ?_⟩) ?_ ?_
          rotate_left
          · intro w'
            go_simp
            with_reducible rfl
          rotate_left
          · simp only [Act.put, List.setIfInBounds_toArray, List.set_cons_zero, List.set_cons_succ]
            rfl
          refine pure_ (i := 9) (N := some 122) (v := ?_) (a' := ?_) #[true, true, true, false, true, true, true, true, true, true, false, false, false] rfl rfl (any_of HT_.out (by kernel_rfl)) (fun _ _ _ h => h) (Or.inl ⟨by rfl, ?_⟩) ?_ ?_
          rotate_left
          · intro w'
            go_simp
            with_reducible rfl
          rotate_left
          · simp only [Act.put, List.setIfInBounds_toArray, List.set_cons_zero, List.set_cons_succ]
            rfl
          refine take_ (i := 3) (N := some 116) (v := ?_) (a' := ?_) #[true, true, true, true, true, true, true, true, true, true, false, false, false] rfl rfl (take_ofW HT_.out HW_.out (by kernel_rfl)) (fun _ _ _ h => h) (Or.inl ⟨by rfl, ?_⟩) hHeld ?_ ?_
          rotate_left
          · rintro w' ⟨s0, s1⟩
            go_simp
            with_reducible rfl
          rotate_left
          · simp only [Act.put, List.setIfInBounds_toArray, List.set_cons_zero, List.set_cons_succ]
            rfl
          refine take_ (i := 10) (N := some 123) (v := ?_) (a' := ?_) #[true, true, true, true, true, true, true, true, true, true, true, false, false] rfl rfl (take_ofW HT_.out HW_.out (by kernel_rfl)) (fun _ _ _ h => h) (Or.inl ⟨by rfl, ?_⟩) hHeld ?_ ?_
          rotate_left
          · rintro w' ⟨s0, s1⟩
            go_simp
            with_reducible rfl
          rotate_left
          · simp only [Act.put, List.setIfInBounds_toArray, List.set_cons_zero, List.set_cons_succ]
            rfl
          refine one_ (i := 11) (N := some 124) #[true, true, true, true, true, true, true, true, true, true, true, true, false] rfl rfl (one_of HT_.out (by kernel_rfl)) (by decide) (fun K hK => ?_)
          refine goes_ Try.func27 (by kernel_rfl) rfl #[.slice A2 r'.l.length c2, .int .i64 xt] (by rfl) rfl rfl (by (try simp only [List.map_toArray, List.map_cons, List.map_nil]); first | done | rfl) ?_
          refine (refAt_' (Kd.F_now HL.out) H2.out HLen.out xt HAi.out).mono ?_
          rintro e w9 ⟨rfl, q7, rfl⟩
          refine ⟨_, rfl, ?_⟩
          have hb := drewN_below' wd q7
          replace HDu := Lib.hid (HDu.out.below hb)
          replace HBx := Lib.hid (HBx.out.trans (hb.mono HBx.out.size))
          replace HDb := Lib.hid (HDb.out.below hb)
          replace HL := Lib.hid (Kd.F_below HL.out hb)
          replace HP := Lib.hid (HP.out.below hb)
          clear hb n5
          obtain ⟨ad6, e6, n0, ncc, nlt⟩ := (HAc.out.below HBx.out) k _ HA.out
          injection e6 with e6
          subst e6
          have n5 := ncc 5 _ rfl
          clear n0 ncc nlt
          simp only [] at n5
          refine hK.out _ _ ⟨HDb.out.cell (j := 3) rfl, n5⟩ (fun hNew => ?_)
          clear hK K hHeld
          have hHeld := hNew
          clear hNew
          refine norm_ (a' := ?_) ?_ ?_
          rotate_left
          · show Act.put _ (some 124) _ = _
            simp only [Act.put, List.setIfInBounds_toArray, List.set_cons_zero, List.set_cons_succ]
            rfl
          refine pure_ (i := 12) (N := some 13) (v := ?_) (a' := ?_) #[true, true, true, true, true, true, true, true, true, true, true, true, true] rfl rfl (any_of HT_.out (by kernel_rfl)) (fun _ _ _ h => h) (Or.inl ⟨by rfl, ?_⟩) ?_ ?_
          rotate_left
          · intro w'
            go_simp
            with_reducible rfl
          rotate_left
          · simp only [Act.put, List.setIfInBounds_toArray, List.set_cons_zero, List.set_cons_succ]
            rfl
          refine done_ (done_of HT_.out (by kernel_rfl)) ?_
          clear hHeld HT_ HW_ n5
          generalize wd.drewN q7 = wv at *
          have p0 := HP.out.cell (j := 0) rfl
          have p1 := HP.out.cell (j := 1) rfl
          have d3 := HDb.out.cell (j := 3) rfl
          go_wp2_with fail
          go_quiet (fail)
          go_wp2_with fail
          go_roundw
          case rel => exact ⟨k + 1, O', S', U', t', r', A'', c'', told', by omega, by go_num, rfl, HDu.out.below (by repeat (first | exact Below.refl _ _ | refine bdn ?_ _)), HBx.out.trans ((by repeat (first | exact Below.refl _ _ | refine bdn ?_ _) : Below _ _ _).mono HBx.out.size)⟩
          case measure => simp [intOf]; omega
        · have HAt := Lib.hid f1
          have HAi := Lib.hid f2
          have HAy := Lib.hid f3
          obtain ⟨⟨yi, yg⟩, ⟨yt, yn, yk, yd⟩⟩ := y
          clear f1 f2 f3
          obtain ⟨ad6, e6, n0, ncc, nlt⟩ := (HAc.out.below HBx.out) k _ HA.out
          injection e6 with e6
          subst e6
          have n5 := ncc 5 _ rfl
          clear n0 ncc nlt
          simp only [] at n5
          go_wp2_with fail
          refine (atAt HDu.out.tab (x := xt) HFit.out).mono ?_
          rintro e wy ⟨rfl, hb⟩
          replace HDu := Lib.hid (HDu.out.below hb)
          replace HBx := Lib.hid (HBx.out.trans (hb.mono HBx.out.size))
          replace HDb := Lib.hid (HDb.out.below hb)
          replace HL := Lib.hid (Kd.F_below HL.out hb)
          clear hb n5
          rw [HAt.out]
          dsimp only
          go_wp2_with fail
          refine gwP (fun wz hwz => ?_)
          have hb : Below wy.heap.size wy wz := by rw [← hwz]; exact (Below.refl _ _).alloc (Nat.le_refl _) _
          have HP : Hid (Blk wz wy.heap.size #[.int .i64 yi, .int .i64 yg] 28) := Lib.hid (by rw [← hwz]; exact Blk.new _ _ _)
          replace HDu := Lib.hid (HDu.out.below hb)
          replace HBx := Lib.hid (HBx.out.trans (hb.mono HBx.out.size))
          replace HDb := Lib.hid (HDb.out.below hb)
          replace HL := Lib.hid (Kd.F_below HL.out hb)
          clear hb hwz
          have hb : Below wz.heap.size wz wz.drew := (Below.refl _ _).drew
          replace HDu := Lib.hid (HDu.out.below hb)
          replace HBx := Lib.hid (HBx.out.trans (hb.mono HBx.out.size))
          replace HDb := Lib.hid (HDb.out.below hb)
          replace HL := Lib.hid (Kd.F_below HL.out hb)
          replace HP := Lib.hid (HP.out.below hb)
          clear hb
          obtain ⟨ad6, e6, n0, ncc, nlt⟩ := (HAc.out.below HBx.out) k _ HA.out
          injection e6 with e6
          subst e6
          have n5 := ncc 5 _ rfl
          clear n0 ncc nlt
          simp only [] at n5
          refine start_ (n := 13) (S := fun w' => w'.cell? ⟨D, 3, none⟩ = some (.slice A2 r'.l.length c2) ∧ w'.cell? ⟨(ad.add (k * 9)).block, (ad.add (k * 9)).off + 5, none⟩ = some (.int .i64 xt)) (ds := []) #[false, false, false, false, false, false, false, false, false, false, false, false, false] (by kernel_rfl) rfl rfl ⟨HDb.out.cell (j := 3) rfl, n5⟩ (fun hHeld => ?_); refine with_tabW tab6_19 bits6_19 (fun HT_ HW_ => ?_)
          generalize wz.drew = wd at HDu HBx HDb HL HP n5 hHeld ⊢
          refine pure_ (i := 0) (N := some 113) (v := ?_) (a' := ?_) #[true, false, false, false, false, false, false, false, false, false, false, false, false] rfl rfl (any_of HT_.out (by kernel_rfl)) (fun _ _ _ h => h) (Or.inl ⟨by rfl, ?_⟩) ?_ ?_
          rotate_left
          · intro w'
            go_simp
            with_reducible rfl
          rotate_left
          · simp only [Act.put, List.setIfInBounds_toArray, List.set_cons_zero, List.set_cons_succ]
            rfl
          refine pure_ (i := 1) (N := some 114) (v := ?_) (a' := ?_) #[true, true, false, false, false, false, false, false, false, false, false, false, false] rfl rfl (any_of HT_.out (by kernel_rfl)) (fun _ _ _ h => h) (Or.inl ⟨by rfl, ?_⟩) ?_ ?_
          rotate_left
          · intro w'
            go_simp
            with_reducible rfl
          rotate_left
          · simp only [Act.put, List.setIfInBounds_toArray, List.set_cons_zero, List.set_cons_succ]
            rfl
          refine pure_ (i := 2) (N := some 115) (v := ?_) (a' := ?_) #[true, true, true, false, false, false, false, false, false, false, false, false, false] rfl rfl (any_of HT_.out (by kernel_rfl)) (fun _ _ _ h => h) (Or.inl ⟨by rfl, ?_⟩) ?_ ?_
          rotate_left
          · intro w'
            go_simp
            with_reducible rfl
          rotate_left
          · simp only [Act.put, List.setIfInBounds_toArray, List.set_cons_zero, List.set_cons_succ]
            rfl
          refine pure_ (i := 4) (N := some 117) (v := ?_) (a' := ?_) #[true, true, true, false, true, false, false, false, false, false, false, false, false] rfl rfl (any_of HT_.out (by kernel_rfl)) (fun _ _ _ h => h) (Or.inl ⟨by rfl, ?_⟩) ?_ ?_
          rotate_left
          · intro w'
            go_simp
            with_reducible rfl
          rotate_left
          · simp only [Act.put, List.setIfInBounds_toArray, List.set_cons_zero, List.set_cons_succ]
            rfl
          refine pure_ (i := 5) (N := some 118) (v := ?_) (a' := ?_) #[true, true, true, false, true, true, false, false, false, false, false, false, false] rfl rfl (any_of HT_.out (by kernel_rfl)) (fun _ _ _ h => h) (Or.inl ⟨by rfl, ?_⟩) ?_ ?_
          rotate_left
          · intro w'
            go_simp
            with_reducible rfl
          rotate_left
          · simp only [Act.put, List.setIfInBounds_toArray, List.set_cons_zero, List.set_cons_succ]
            rfl
          refine pure_ (i := 6) (N := some 119) (v := ?_) (a' := ?_) #[true, true, true, false, true, true, true, false, false, false, false, false, false] rfl rfl (any_of HT_.out (by kernel_rfl)) (fun _ _ _ h => h) (Or.inl ⟨by rfl, ?_⟩) ?_ ?_
          rotate_left
          · intro w'
            go_simp
            with_reducible rfl
          rotate_left
          · simp only [Act.put, List.setIfInBounds_toArray, List.set_cons_zero, List.set_cons_succ]
            rfl
          refine pure_ (i := 7) (N := some 120) (v := ?_) (a' := ?_) #[true, true, true, false, true, true, true, true, false, false, false, false, false] rfl rfl (any_of HT_.out (by kernel_rfl)) (fun _ _ _ h => h) (Or.inl ⟨by rfl, ?_⟩) ?_ ?_
          rotate_left
          · intro w'
            go_simp
            with_reducible rfl
          rotate_left
          · simp only [Act.put, List.setIfInBounds_toArray, List.set_cons_zero, List.set_cons_succ]
            rfl
          refine pure_ (i := 8) (N := some 121) (v := ?_) (a' := ?_) #[true, true, true, false, true, true, true, true, true, false, false, false, false] rfl rfl (any_of HT_.out (by kernel_rfl)) (fun _ _ _ h => h) (Or.inl ⟨by rfl, ?_⟩) ?_ ?_
          rotate_left
          · intro w'
            go_simp
            with_reducible rfl
          rotate_left
          · simp only [Act.put, List.setIfInBounds_toArray, List.set_cons_zero, List.set_cons_succ]
            rfl
          refine pure_ (i := 9) (N := some 122) (v := ?_) (a' := ?_) #[true, true, true, false, true, true, true, true, true, true, false, false, false] rfl rfl (any_of HT_.out (by kernel_rfl)) (fun _ _ _ h => h) (Or.inl ⟨by rfl, ?_⟩) ?_ ?_
          rotate_left
          · intro w'
            go_simp
            with_reducible rfl
          rotate_left
          · simp only [Act.put, List.setIfInBounds_toArray, List.set_cons_zero, List.set_cons_succ]
            rfl
          refine take_ (i := 3) (N := some 116) (v := ?_) (a' := ?_) #[true, true, true, true, true, true, true, true, true, true, false, false, false] rfl rfl (take_ofW HT_.out HW_.out (by kernel_rfl)) (fun _ _ _ h => h) (Or.inl ⟨by rfl, ?_⟩) hHeld ?_ ?_
          rotate_left
          · rintro w' ⟨s0, s1⟩
            go_simp
            with_reducible rfl
          rotate_left
          · simp only [Act.put, List.setIfInBounds_toArray, List.set_cons_zero, List.set_cons_succ]
            rfl
          refine take_ (i := 10) (N := some 123) (v := ?_) (a' := ?_) #[true, true, true, true, true, true, true, true, true, true, true, false, false] rfl rfl (take_ofW HT_.out HW_.out (by kernel_rfl)) (fun _ _ _ h => h) (Or.inl ⟨by rfl, ?_⟩) hHeld ?_ ?_
          rotate_left
          · rintro w' ⟨s0, s1⟩
            go_simp
            with_reducible rfl
          rotate_left
          · simp only [Act.put, List.setIfInBounds_toArray, List.set_cons_zero, List.set_cons_succ]
            rfl
          refine one_ (i := 11) (N := some 124) #[true, true, true, true, true, true, true, true, true, true, true, true, false] rfl rfl (one_of HT_.out (by kernel_rfl)) (by decide) (fun K hK => ?_)
          refine goes_ Try.func27 (by kernel_rfl) rfl #[.slice A2 r'.l.length c2, .int .i64 xt] (by rfl) rfl rfl (by (try simp only [List.map_toArray, List.map_cons, List.map_nil]); first | done | rfl) ?_
          refine (refAt_' (Kd.F_now HL.out) H2.out HLen.out xt HAi.out).mono ?_
          rintro e w9 ⟨rfl, q7, rfl⟩
          refine ⟨_, rfl, ?_⟩
          have hb := drewN_below' wd q7
          replace HDu := Lib.hid (HDu.out.below hb)
          replace HBx := Lib.hid (HBx.out.trans (hb.mono HBx.out.size))
          replace HDb := Lib.hid (HDb.out.below hb)
          replace HL := Lib.hid (Kd.F_below HL.out hb)
          replace HP := Lib.hid (HP.out.below hb)
          clear hb n5
          obtain ⟨ad6, e6, n0, ncc, nlt⟩ := (HAc.out.below HBx.out) k _ HA.out
          injection e6 with e6
          subst e6
          have n5 := ncc 5 _ rfl
          clear n0 ncc nlt
          simp only [] at n5
          refine hK.out _ _ ⟨HDb.out.cell (j := 3) rfl, n5⟩ (fun hNew => ?_)
          clear hK K hHeld
          have hHeld := hNew
          clear hNew
          refine norm_ (a' := ?_) ?_ ?_
          rotate_left
          · show Act.put _ (some 124) _ = _
            simp only [Act.put, List.setIfInBounds_toArray, List.set_cons_zero, List.set_cons_succ]
            rfl
          refine pure_ (i := 12) (N := some 13) (v := ?_) (a' := ?_) #[true, true, true, true, true, true, true, true, true, true, true, true, true] rfl rfl (any_of HT_.out (by kernel_rfl)) (fun _ _ _ h => h) (Or.inl ⟨by rfl, ?_⟩) ?_ ?_
          rotate_left
          · intro w'
            go_simp
            with_reducible rfl
          rotate_left
          · simp only [Act.put, List.setIfInBounds_toArray, List.set_cons_zero, List.set_cons_succ]
            rfl
          refine done_ (done_of HT_.out (by kernel_rfl)) ?_
          clear hHeld HT_ HW_ n5
          generalize wd.drewN q7 = wv at *
          have p0 := HP.out.cell (j := 0) rfl
          have p1 := HP.out.cell (j := 1) rfl
          have d3 := HDb.out.cell (j := 3) rfl
          obtain ⟨ad2, hA2, r0, r1, r2, r3, r4, r5⟩ := row_at (Kd.F_now HL.out) HAy.out
          cases hA2
          have hkk := (List.getElem?_eq_some_iff.1 HAy.out).1
          have hi0 : (0 : Int) ≤ kk := by omega
          have hin : (kk : Int) < r'.l.length := by omega
          have e1 : (kk : Int).toNat = kk := by omega
          dsimp only at r0 r1
          go_wp2_with fail
          go_quiet (fail)
          go_wp2_with fail
          go_roundw
          case rel => exact ⟨k + 1, O', S', U', t', r', A'', c'', told', by omega, by go_num, rfl, HDu.out.below (by repeat (first | exact Below.refl _ _ | refine bdn ?_ _)), HBx.out.trans ((by repeat (first | exact Below.refl _ _ | refine bdn ?_ _) : Below _ _ _).mono HBx.out.size)⟩
          case measure => simp [intOf]; omega
      · have HFd := Lib.hid f1
        have HFi2 := Lib.hid f2
        have HFy := Lib.hid f3
        obtain ⟨ot, oi, ok, od⟩ := o
        clear f1 f2 f3
        obtain ⟨ad6, e6, n0, ncc, nlt⟩ := (HAc.out.below HBx.out) k _ HA.out
        injection e6 with e6
        subst e6
        have n3 := ncc 3 _ rfl
        have n4 := ncc 4 _ rfl
        clear n0 ncc nlt
        simp only [] at n3 n4
        go_wp2_with fail
        refine gw (fun w7 hw7 => ?_)
        have hb : Below w6.heap.size w6 w7 := by rw [← hw7]; exact (Below.refl _ _).alloc (Nat.le_refl _) _
        have HQ : Hid (Blk w7 w6.heap.size #[.int .i64 xi, .int .i64 xg] 28) := Lib.hid (by rw [← hw7]; exact Blk.new _ _ _)
        replace HDu := Lib.hid (HDu.out.below hb)
        replace HBx := Lib.hid (HBx.out.trans (hb.mono HBx.out.size))
        clear hb hw7 n3 n4
        refine (findAt HDu.out.tab ⟨xi, xg⟩).mono ?_
        rintro e w8 ⟨rfl, hb⟩
        replace HDu := Lib.hid (HDu.out.below hb)
        replace HBx := Lib.hid (HBx.out.trans (hb.mono HBx.out.size))
        replace HQ := Lib.hid (HQ.out.below hb)
        clear hb
        rw [HFd.out]
        dsimp only [aggOp]
        go_wp2_with fail
        refine gwP (fun wz hwz => ?_)
        have hb : Below w8.heap.size w8 wz := by rw [← hwz]; exact (Below.refl _ _).alloc (Nat.le_refl _) _
        have HO : Hid (Blk wz w8.heap.size #[.int .i64 ot, .bool oi, .int .i64 ok, .int .i64 od] 32) := Lib.hid (by rw [← hwz]; exact Blk.new _ _ _)
        replace HDu := Lib.hid (HDu.out.below hb)
        replace HBx := Lib.hid (HBx.out.trans (hb.mono HBx.out.size))
        replace HQ := Lib.hid (HQ.out.below hb)
        clear hb hwz
        have hb : Below wz.heap.size wz wz.drew := (Below.refl _ _).drew
        replace HDu := Lib.hid (HDu.out.below hb)
        replace HBx := Lib.hid (HBx.out.trans (hb.mono HBx.out.size))
        replace HQ := Lib.hid (HQ.out.below hb)
        replace HO := Lib.hid (HO.out.below hb)
        clear hb
        obtain ⟨A1, c1, A2, c2, hbD, hc1, hc2, hL1, hL2, hS5⟩ := HDu.out.ref
        have HDb := Lib.hid hbD
        have H2 := Lib.hid hc2
        have HL := Lib.hid hL2
        have hfw := HDu.out.tab.good.few
        have hrl := HDu.out.rel.len
        have hlv := liveN_le t'.slots
        have HLen : Hid (r'.l.length ≤ 1000000) := Lib.hid (by omega)
        clear hbD hc1 hc2 hL1 hL2 hS5 hfw hrl hlv
        refine start_ (n := 7) (S := fun w' => w'.cell? ⟨D, 3, none⟩ = some (.slice A2 r'.l.length c2) ∧ w'.cell? ⟨w6.heap.size, 0, none⟩ = some (.int .i64 xi) ∧ w'.cell? ⟨w6.heap.size, 1, none⟩ = some (.int .i64 xg)) (ds := []) #[false, false, false, false, false, false, false] (by kernel_rfl) rfl rfl ⟨HDb.out.cell (j := 3) rfl, HQ.out.cell (j := 0) rfl, HQ.out.cell (j := 1) rfl⟩ (fun hHeld => ?_); refine with_tabW tab6_15 bits6_15 (fun HT_ HW_ => ?_)
        generalize wz.drew = wd at HDu HBx HQ HO HDb HL hHeld ⊢
        refine pure_ (i := 0) (N := some 67) (v := ?_) (a' := ?_) #[true, false, false, false, false, false, false] rfl rfl (any_of HT_.out (by kernel_rfl)) (fun _ _ _ h => h) (Or.inl ⟨by rfl, ?_⟩) ?_ ?_
        rotate_left
        · intro w'
          go_simp
          with_reducible rfl
        rotate_left
        · simp only [Act.put, List.setIfInBounds_toArray, List.set_cons_zero, List.set_cons_succ]
          rfl
        refine pure_ (i := 1) (N := some 68) (v := ?_) (a' := ?_) #[true, true, false, false, false, false, false] rfl rfl (any_of HT_.out (by kernel_rfl)) (fun _ _ _ h => h) (Or.inl ⟨by rfl, ?_⟩) ?_ ?_
        rotate_left
        · intro w'
          go_simp
          with_reducible rfl
        rotate_left
        · simp only [Act.put, List.setIfInBounds_toArray, List.set_cons_zero, List.set_cons_succ]
          rfl
        refine pure_ (i := 2) (N := some 69) (v := ?_) (a' := ?_) #[true, true, true, false, false, false, false] rfl rfl (any_of HT_.out (by kernel_rfl)) (fun _ _ _ h => h) (Or.inl ⟨by rfl, ?_⟩) ?_ ?_
        rotate_left
        · intro w'
          go_simp
          with_reducible rfl
        rotate_left
        · simp only [Act.put, List.setIfInBounds_toArray, List.set_cons_zero, List.set_cons_succ]
          rfl
        refine take_ (i := 3) (N := some 70) (v := ?_) (a' := ?_) #[true, true, true, true, false, false, false] rfl rfl (take_ofW HT_.out HW_.out (by kernel_rfl)) (fun _ _ _ h => h) (Or.inl ⟨by rfl, ?_⟩) hHeld ?_ ?_
        rotate_left
        · rintro w' ⟨s0, s1, s2⟩
          go_simp
          with_reducible rfl
        rotate_left
        · simp only [Act.put, List.setIfInBounds_toArray, List.set_cons_zero, List.set_cons_succ]
          rfl
        refine take_ (i := 4) (N := some 71) (v := ?_) (a' := ?_) #[true, true, true, true, true, false, false] rfl rfl (take_ofW HT_.out HW_.out (by kernel_rfl)) (fun _ _ _ h => h) (Or.inl ⟨by rfl, ?_⟩) hHeld ?_ ?_
        rotate_left
        · rintro w' ⟨s0, s1, s2⟩
          go_simp
          with_reducible rfl
        rotate_left
        · simp only [Act.put, List.setIfInBounds_toArray, List.set_cons_zero, List.set_cons_succ]
          rfl
        refine one_ (i := 5) (N := some 72) #[true, true, true, true, true, true, false] rfl rfl (one_of HT_.out (by kernel_rfl)) (by decide) (fun K hK => ?_)
        refine goes_ Try.func26 (by kernel_rfl) rfl #[.slice A2 r'.l.length c2, .agg #[.int .i64 xi, .int .i64 xg]] (by rfl) rfl rfl (by (try simp only [List.map_toArray, List.map_cons, List.map_nil]); first | done | rfl) ?_
        refine (refOf_' (Kd.F_now HL.out) H2.out HLen.out ⟨xi, xg⟩ HFi2.out).mono ?_
        rintro e w9 ⟨rfl, hb⟩
        refine ⟨_, rfl, ?_⟩
        replace HDu := Lib.hid (HDu.out.below hb)
        replace HBx := Lib.hid (HBx.out.trans (hb.mono HBx.out.size))
        replace HDb := Lib.hid (HDb.out.below hb)
        replace HL := Lib.hid (Kd.F_below HL.out hb)
        replace HQ := Lib.hid (HQ.out.below hb)
        replace HO := Lib.hid (HO.out.below hb)
        clear hb
        refine hK.out _ _ ⟨HDb.out.cell (j := 3) rfl, HQ.out.cell (j := 0) rfl, HQ.out.cell (j := 1) rfl⟩ (fun hNew => ?_)
        clear hK K hHeld
        have hHeld := hNew
        clear hNew
        refine norm_ (a' := ?_) ?_ ?_
        rotate_left
        · show Act.put _ (some 72) _ = _
          simp only [Act.put, List.setIfInBounds_toArray, List.set_cons_zero, List.set_cons_succ]
          rfl
        refine pure_ (i := 6) (N := some 13) (v := ?_) (a' := ?_) #[true, true, true, true, true, true, true] rfl rfl (any_of HT_.out (by kernel_rfl)) (fun _ _ _ h => h) (Or.inl ⟨by rfl, ?_⟩) ?_ ?_
        rotate_left
        · intro w'
          go_simp
          with_reducible rfl
        rotate_left
        · simp only [Act.put, List.setIfInBounds_toArray, List.set_cons_zero, List.set_cons_succ]
          rfl
        refine done_ (done_of HT_.out (by kernel_rfl)) ?_
        clear hHeld HT_ HW_ HQ
        have p0 := HO.out.cell (j := 0) rfl
        have p1 := HO.out.cell (j := 1) rfl
        have p2 := HO.out.cell (j := 2) rfl
        have p3 := HO.out.cell (j := 3) rfl
        have d3 := HDb.out.cell (j := 3) rfl
        obtain ⟨ad2, hA2, r0, r1, r2, r3, r4, r5⟩ := row_at (Kd.F_now HL.out) HFy.out
        cases hA2
        have hkk := (List.getElem?_eq_some_iff.1 HFy.out).1
        have hi0 : (0 : Int) ≤ kf := by omega
        have hin : (kf : Int) < r'.l.length := by omega
        have e1 : (kf : Int).toNat = kf := by omega
        dsimp only at r2 r3 r4 r5
        go_wp2_with fail
        go_quiet (fail)
        refine gwE (fun wx hwx => ?_)
        have hb : Below w9.heap.size w9 wx := by rw [← hwx]; exact bdn (Below.refl _ _) _
        replace HDu := Lib.hid (HDu.out.below hb)
        replace HBx := Lib.hid (HBx.out.trans (hb.mono HBx.out.size))
        replace HDb := Lib.hid (HDb.out.below hb)
        replace HL := Lib.hid (Kd.F_below HL.out hb)
        clear hb hwx HO p0 p1 p2 p3 d3 r0 r1 r2 r3 r4 r5 hkk hi0 hin e1
        rcases HDu.out.rel.at_time xt with ⟨f1, f2⟩ | ⟨kk, y, f1, f2, f3⟩
        · have HAt := Lib.hid f1
          have HAi := Lib.hid f2
          clear f1 f2
          obtain ⟨ad6, e6, n0, ncc, nlt⟩ := (HAc.out.below HBx.out) k _ HA.out
          injection e6 with e6
          subst e6
          have n5 := ncc 5 _ rfl
          clear n0 ncc nlt
          simp only [] at n5
          go_wp2_with fail
          refine (atAt HDu.out.tab (x := xt) HFit.out).mono ?_
          rintro e wy ⟨rfl, hb⟩
          replace HDu := Lib.hid (HDu.out.below hb)
          replace HBx := Lib.hid (HBx.out.trans (hb.mono HBx.out.size))
          replace HDb := Lib.hid (HDb.out.below hb)
          replace HL := Lib.hid (Kd.F_below HL.out hb)
          clear hb n5
          rw [HAt.out]
          dsimp only
          go_wp2_with fail
          refine gwP (fun wz hwz => ?_)
          have hb : Below wy.heap.size wy wz := by rw [← hwz]; exact (Below.refl _ _).alloc (Nat.le_refl _) _
          have HP : Hid (Blk wz wy.heap.size #[.int .i64 0, .int .i64 0] 28) := Lib.hid (by rw [← hwz]; exact Blk.new _ _ _)
          replace HDu := Lib.hid (HDu.out.below hb)
          replace HBx := Lib.hid (HBx.out.trans (hb.mono HBx.out.size))
          replace HDb := Lib.hid (HDb.out.below hb)
          replace HL := Lib.hid (Kd.F_below HL.out hb)
          clear hb hwz
          have hb : Below wz.heap.size wz wz.drew := (Below.refl _ _).drew
          replace HDu := Lib.hid (HDu.out.below hb)
          replace HBx := Lib.hid (HBx.out.trans (hb.mono HBx.out.size))
          replace HDb := Lib.hid (HDb.out.below hb)
          replace HL := Lib.hid (Kd.F_below HL.out hb)
          replace HP := Lib.hid (HP.out.below hb)
          clear hb
          obtain ⟨ad6, e6, n0, ncc, nlt⟩ := (HAc.out.below HBx.out) k _ HA.out
          injection e6 with e6
          subst e6
          have n5 := ncc 5 _ rfl
          clear n0 ncc nlt
          simp only [] at n5
          refine start_ (n := 13) (S := fun w' => w'.cell? ⟨D, 3, none⟩ = some (.slice (some ad2) r'.l.length c2) ∧ w'.cell? ⟨(ad.add (k * 9)).block, (ad.add (k * 9)).off + 5, none⟩ = some (.int .i64 xt)) (ds := []) #[false, false, false, false, false, false, false, false, false, false, false, false, false] (by kernel_rfl) rfl rfl ⟨HDb.out.cell (j := 3) rfl, n5⟩ (fun hHeld => ?_); refine with_tabW tab6_19 bits6_19 (fun HT_ HW_ => ?_)
          generalize wz.drew = wd at HDu HBx HDb HL HP n5 hHeld ⊢
          refine pure_ (i := 0) (N := some 113) (v := ?_) (a' := ?_) #[true, false, false, false, false, false, false, false, false, false, false, false, false] rfl rfl (any_of HT_.out (by kernel_rfl)) (fun _ _ _ h => h) (Or.inl ⟨by rfl, ?_⟩) ?_ ?_
          rotate_left
          · intro w'
            go_simp
            with_reducible rfl
          rotate_left
          · simp only [Act.put, List.setIfInBounds_toArray, List.set_cons_zero, List.set_cons_succ]
            rfl
          refine pure_ (i := 1) (N := some 114) (v := ?_) (a' := ?_) #[true, true, false, false, false, false, false, false, false, false, false, false, false] rfl rfl (any_of HT_.out (by kernel_rfl)) (fun _ _ _ h => h) (Or.inl ⟨by rfl, ?_⟩) ?_ ?_
          rotate_left
          · intro w'
            go_simp
            with_reducible rfl
          rotate_left
          · simp only [Act.put, List.setIfInBounds_toArray, List.set_cons_zero, List.set_cons_succ]
            rfl
          refine pure_ (i := 2) (N := some 115) (v := ?_) (a' := ?_) #[true, true, true, false, false, false, false, false, false, false, false, false, false] rfl rfl (any_of HT_.out (by kernel_rfl)) (fun _ _ _ h => h) (Or.inl ⟨by rfl, ?_⟩) ?_ ?_
          rotate_left
          · intro w'
            go_simp
            with_reducible rfl
          rotate_left
          · simp only [Act.put, List.setIfInBounds_toArray, List.set_cons_zero, List.set_cons_succ]
            rfl
          refine pure_ (i := 4) (N := some 117) (v := ?_) (a' := ?_) #[true, true, true, false, true, false, false, false, false, false, false, false, false] rfl rfl (any_of HT_.out (by kernel_rfl)) (fun _ _ _ h => h) (Or.inl ⟨by rfl, ?_⟩) ?_ ?_
          rotate_left
          · intro w'
            go_simp
            with_reducible rfl
          rotate_left
          · simp only [Act.put, List.setIfInBounds_toArray, List.set_cons_zero, List.set_cons_succ]
            rfl
          refine pure_ (i := 5) (N := some 118) (v := ?_) (a' := ?_) #[true, true, true, false, true, true, false, false, false, false, false, false, false] rfl rfl (any_of HT_.out (by kernel_rfl)) (fun _ _ _ h => h) (Or.inl ⟨by rfl, ?_⟩) ?_ ?_
          rotate_left
          · intro w'
            go_simp
            with_reducible rfl
          rotate_left
          · simp only [Act.put, List.setIfInBounds_toArray, List.set_cons_zero, List.set_cons_succ]
            rfl
          refine pure_ (i := 6) (N := some 119) (v := ?_) (a' := ?_) #[true, true, true, false, true, true, true, false, false, false, false, false, false] rfl rfl (any_of HT_.out (by kernel_rfl)) (fun _ _ _ h => h) (Or.inl ⟨by rfl, ?_⟩) ?_ ?_
          rotate_left
          · intro w'
            go_simp
            with_reducible rfl
          rotate_left
          · simp only [Act.put, List.setIfInBounds_toArray, List.set_cons_zero, List.set_cons_succ]
            rfl
          refine pure_ (i := 7) (N := some 120) (v := ?_) (a' := ?_) #[true, true, true, false, true, true, true, true, false, false, false, false, false] rfl rfl (any_of HT_.out (by kernel_rfl)) (fun _ _ _ h => h) (Or.inl ⟨by rfl, ?_⟩) ?_ ?_
          rotate_left
          · intro w'
            go_simp
            with_reducible rfl
          rotate_left
          · simp only [Act.put, List.setIfInBounds_toArray, List.set_cons_zero, List.set_cons_succ]
            rfl
          refine pure_ (i := 8) (N := some 121) (v := ?_) (a' := ?_) #[true, true, true, false, true, true, true, true, true, false, false, false, false] rfl rfl (any_of HT_.out (by kernel_rfl)) (fun _ _ _ h => h) (Or.inl ⟨by rfl, ?_⟩) ?_ ?_
          rotate_left
          · intro w'
            go_simp
            with_reducible rfl
          rotate_left
          · simp only [Act.put, List.setIfInBounds_toArray, List.set_cons_zero, List.set_cons_succ]
            rfl
          refine pure_ (i := 9) (N := some 122) (v := ?_) (a' := ?_) #[true, true, true, false, true, true, true, true, true, true, false, false, false] rfl rfl (any_of HT_.out (by kernel_rfl)) (fun _ _ _ h => h) (Or.inl ⟨by rfl, ?_⟩) ?_ ?_
          rotate_left
          · intro w'
            go_simp
            with_reducible rfl
          rotate_left
          · simp only [Act.put, List.setIfInBounds_toArray, List.set_cons_zero, List.set_cons_succ]
            rfl
          refine take_ (i := 3) (N := some 116) (v := ?_) (a' := ?_) #[true, true, true, true, true, true, true, true, true, true, false, false, false] rfl rfl (take_ofW HT_.out HW_.out (by kernel_rfl)) (fun _ _ _ h => h) (Or.inl ⟨by rfl, ?_⟩) hHeld ?_ ?_
          rotate_left
          · rintro w' ⟨s0, s1⟩
            go_simp
            with_reducible rfl
          rotate_left
          · simp only [Act.put, List.setIfInBounds_toArray, List.set_cons_zero, List.set_cons_succ]
            rfl
          refine take_ (i := 10) (N := some 123) (v := ?_) (a' := ?_) #[true, true, true, true, true, true, true, true, true, true, true, false, false] rfl rfl (take_ofW HT_.out HW_.out (by kernel_rfl)) (fun _ _ _ h => h) (Or.inl ⟨by rfl, ?_⟩) hHeld ?_ ?_
          rotate_left
          · rintro w' ⟨s0, s1⟩
            go_simp
            with_reducible rfl
          rotate_left
          · simp only [Act.put, List.setIfInBounds_toArray, List.set_cons_zero, List.set_cons_succ]
            rfl
          refine one_ (i := 11) (N := some 124) #[true, true, true, true, true, true, true, true, true, true, true, true, false] rfl rfl (one_of HT_.out (by kernel_rfl)) (by decide) (fun K hK => ?_)
          refine goes_ Try.func27 (by kernel_rfl) rfl #[.slice (some ad2) r'.l.length c2, .int .i64 xt] (by rfl) rfl rfl (by (try simp only [List.map_toArray, List.map_cons, List.map_nil]); first | done | rfl) ?_
          refine (refAt_' (Kd.F_now HL.out) H2.out HLen.out xt HAi.out).mono ?_
          rintro e w9 ⟨rfl, q7, rfl⟩
          refine ⟨_, rfl, ?_⟩
          have hb := drewN_below' wd q7
          replace HDu := Lib.hid (HDu.out.below hb)
          replace HBx := Lib.hid (HBx.out.trans (hb.mono HBx.out.size))
          replace HDb := Lib.hid (HDb.out.below hb)
          replace HL := Lib.hid (Kd.F_below HL.out hb)
          replace HP := Lib.hid (HP.out.below hb)
          clear hb n5
          obtain ⟨ad6, e6, n0, ncc, nlt⟩ := (HAc.out.below HBx.out) k _ HA.out
          injection e6 with e6
          subst e6
          have n5 := ncc 5 _ rfl
          clear n0 ncc nlt
          simp only [] at n5
          refine hK.out _ _ ⟨HDb.out.cell (j := 3) rfl, n5⟩ (fun hNew => ?_)
          clear hK K hHeld
          have hHeld := hNew
          clear hNew
          refine norm_ (a' := ?_) ?_ ?_
          rotate_left
          · show Act.put _ (some 124) _ = _
            simp only [Act.put, List.setIfInBounds_toArray, List.set_cons_zero, List.set_cons_succ]
            rfl
          refine pure_ (i := 12) (N := some 13) (v := ?_) (a' := ?_) #[true, true, true, true, true, true, true, true, true, true, true, true, true] rfl rfl (any_of HT_.out (by kernel_rfl)) (fun _ _ _ h => h) (Or.inl ⟨by rfl, ?_⟩) ?_ ?_
          rotate_left
          · intro w'
            go_simp
            with_reducible rfl
          rotate_left
          · simp only [Act.put, List.setIfInBounds_toArray, List.set_cons_zero, List.set_cons_succ]
            rfl
          refine done_ (done_of HT_.out (by kernel_rfl)) ?_
          clear hHeld HT_ HW_ n5
          generalize wd.drewN q7 = wv at *
          have p0 := HP.out.cell (j := 0) rfl
          have p1 := HP.out.cell (j := 1) rfl
          have d3 := HDb.out.cell (j := 3) rfl
          go_wp2_with fail
          go_quiet (fail)
          go_wp2_with fail
          go_roundw
          case rel => exact ⟨k + 1, O', S', U', t', r', A'', c'', told', by omega, by go_num, rfl, HDu.out.below (by repeat (first | exact Below.refl _ _ | refine bdn ?_ _)), HBx.out.trans ((by repeat (first | exact Below.refl _ _ | refine bdn ?_ _) : Below _ _ _).mono HBx.out.size)⟩
          case measure => simp [intOf]; omega
        · have HAt := Lib.hid f1
          have HAi := Lib.hid f2
          have HAy := Lib.hid f3
          obtain ⟨⟨yi, yg⟩, ⟨yt, yn, yk, yd⟩⟩ := y
          clear f1 f2 f3
          obtain ⟨ad6, e6, n0, ncc, nlt⟩ := (HAc.out.below HBx.out) k _ HA.out
          injection e6 with e6
          subst e6
          have n5 := ncc 5 _ rfl
          clear n0 ncc nlt
          simp only [] at n5
          go_wp2_with fail
          refine (atAt HDu.out.tab (x := xt) HFit.out).mono ?_
          rintro e wy ⟨rfl, hb⟩
          replace HDu := Lib.hid (HDu.out.below hb)
          replace HBx := Lib.hid (HBx.out.trans (hb.mono HBx.out.size))
          replace HDb := Lib.hid (HDb.out.below hb)
          replace HL := Lib.hid (Kd.F_below HL.out hb)
          clear hb n5
          rw [HAt.out]
          dsimp only
          go_wp2_with fail
          refine gwP (fun wz hwz => ?_)
          have hb : Below wy.heap.size wy wz := by rw [← hwz]; exact (Below.refl _ _).alloc (Nat.le_refl _) _
          have HP : Hid (Blk wz wy.heap.size #[.int .i64 yi, .int .i64 yg] 28) := Lib.hid (by rw [← hwz]; exact Blk.new _ _ _)
          replace HDu := Lib.hid (HDu.out.below hb)
          replace HBx := Lib.hid (HBx.out.trans (hb.mono HBx.out.size))
          replace HDb := Lib.hid (HDb.out.below hb)
          replace HL := Lib.hid (Kd.F_below HL.out hb)
          clear hb hwz
          have hb : Below wz.heap.size wz wz.drew := (Below.refl _ _).drew
          replace HDu := Lib.hid (HDu.out.below hb)
          replace HBx := Lib.hid (HBx.out.trans (hb.mono HBx.out.size))
          replace HDb := Lib.hid (HDb.out.below hb)
          replace HL := Lib.hid (Kd.F_below HL.out hb)
          replace HP := Lib.hid (HP.out.below hb)
          clear hb
          obtain ⟨ad6, e6, n0, ncc, nlt⟩ := (HAc.out.below HBx.out) k _ HA.out
          injection e6 with e6
          subst e6
          have n5 := ncc 5 _ rfl
          clear n0 ncc nlt
          simp only [] at n5
          refine start_ (n := 13) (S := fun w' => w'.cell? ⟨D, 3, none⟩ = some (.slice (some ad2) r'.l.length c2) ∧ w'.cell? ⟨(ad.add (k * 9)).block, (ad.add (k * 9)).off + 5, none⟩ = some (.int .i64 xt)) (ds := []) #[false, false, false, false, false, false, false, false, false, false, false, false, false] (by kernel_rfl) rfl rfl ⟨HDb.out.cell (j := 3) rfl, n5⟩ (fun hHeld => ?_); refine with_tabW tab6_19 bits6_19 (fun HT_ HW_ => ?_)
          generalize wz.drew = wd at HDu HBx HDb HL HP n5 hHeld ⊢
          refine pure_ (i := 0) (N := some 113) (v := ?_) (a' := ?_) #[true, false, false, false, false, false, false, false, false, false, false, false, false] rfl rfl (any_of HT_.out (by kernel_rfl)) (fun _ _ _ h => h) (Or.inl ⟨by rfl, ?_⟩) ?_ ?_
          rotate_left
          · intro w'
            go_simp
            with_reducible rfl
          rotate_left
          · simp only [Act.put, List.setIfInBounds_toArray, List.set_cons_zero, List.set_cons_succ]
            rfl
          refine pure_ (i := 1) (N := some 114) (v := ?_) (a' := ?_) #[true, true, false, false, false, false, false, false, false, false, false, false, false] rfl rfl (any_of HT_.out (by kernel_rfl)) (fun _ _ _ h => h) (Or.inl ⟨by rfl, ?_⟩) ?_ ?_
          rotate_left
          · intro w'
            go_simp
            with_reducible rfl
          rotate_left
          · simp only [Act.put, List.setIfInBounds_toArray, List.set_cons_zero, List.set_cons_succ]
            rfl
          refine pure_ (i := 2) (N := some 115) (v := ?_) (a' := ?_) #[true, true, true, false, false, false, false, false, false, false, false, false, false] rfl rfl (any_of HT_.out (by kernel_rfl)) (fun _ _ _ h => h) (Or.inl ⟨by rfl, ?_⟩) ?_ ?_
          rotate_left
          · intro w'
            go_simp
            with_reducible rfl
          rotate_left
          · simp only [Act.put, List.setIfInBounds_toArray, List.set_cons_zero, List.set_cons_succ]
            rfl
          refine pure_ (i := 4) (N := some 117) (v := ?_) (a' := ?_) #[true, true, true, false, true, false, false, false, false, false, false, false, false] rfl rfl (any_of HT_.out (by kernel_rfl)) (fun _ _ _ h => h) (Or.inl ⟨by rfl, ?_⟩) ?_ ?_
          rotate_left
          · intro w'
            go_simp
            with_reducible rfl
          rotate_left
          · simp only [Act.put, List.setIfInBounds_toArray, List.set_cons_zero, List.set_cons_succ]
            rfl
          refine pure_ (i := 5) (N := some 118) (v := ?_) (a' := ?_) #[true, true, true, false, true, true, false, false, false, false, false, false, false] rfl rfl (any_of HT_.out (by kernel_rfl)) (fun _ _ _ h => h) (Or.inl ⟨by rfl, ?_⟩) ?_ ?_
          rotate_left
          · intro w'
            go_simp
            with_reducible rfl
          rotate_left
          · simp only [Act.put, List.setIfInBounds_toArray, List.set_cons_zero, List.set_cons_succ]
            rfl
          refine pure_ (i := 6) (N := some 119) (v := ?_) (a' := ?_) #[true, true, true, false, true, true, true, false, false, false, false, false, false] rfl rfl (any_of HT_.out (by kernel_rfl)) (fun _ _ _ h => h) (Or.inl ⟨by rfl, ?_⟩) ?_ ?_
          rotate_left
          · intro w'
            go_simp
            with_reducible rfl
          rotate_left
          · simp only [Act.put, List.setIfInBounds_toArray, List.set_cons_zero, List.set_cons_succ]
            rfl
          refine pure_ (i := 7) (N := some 120) (v := ?_) (a' := ?_) #[true, true, true, false, true, true, true, true, false, false, false, false, false] rfl rfl (any_of HT_.out (by kernel_rfl)) (fun _ _ _ h => h) (Or.inl ⟨by rfl, ?_⟩) ?_ ?_
          rotate_left
          · intro w'
            go_simp
            with_reducible rfl
          rotate_left
          · simp only [Act.put, List.setIfInBounds_toArray, List.set_cons_zero, List.set_cons_succ]
            rfl
          refine pure_ (i := 8) (N := some 121) (v := ?_) (a' := ?_) #[true, true, true, false, true, true, true, true, true, false, false, false, false] rfl rfl (any_of HT_.out (by kernel_rfl)) (fun _ _ _ h => h) (Or.inl ⟨by rfl, ?_⟩) ?_ ?_
          rotate_left
          · intro w'
            go_simp
            with_reducible rfl
          rotate_left
          · simp only [Act.put, List.setIfInBounds_toArray, List.set_cons_zero, List.set_cons_succ]
            rfl
          refine pure_ (i := 9) (N := some 122) (v := ?_) (a' := ?_) #[true, true, true, false, true, true, true, true, true, true, false, false, false] rfl rfl (any_of HT_.out (by kernel_rfl)) (fun _ _ _ h => h) (Or.inl ⟨by rfl, ?_⟩) ?_ ?_
          rotate_left
          · intro w'
            go_simp
            with_reducible rfl
          rotate_left
          · simp only [Act.put, List.setIfInBounds_toArray, List.set_cons_zero, List.set_cons_succ]
            rfl
          refine take_ (i := 3) (N := some 116) (v := ?_) (a' := ?_) #[true, true, true, true, true, true, true, true, true, true, false, false, false] rfl rfl (take_ofW HT_.out HW_.out (by kernel_rfl)) (fun _ _ _ h => h) (Or.inl ⟨by rfl, ?_⟩) hHeld ?_ ?_
          rotate_left
          · rintro w' ⟨s0, s1⟩
            go_simp
            with_reducible rfl
          rotate_left
          · simp only [Act.put, List.setIfInBounds_toArray, List.set_cons_zero, List.set_cons_succ]
            rfl
          refine take_ (i := 10) (N := some 123) (v := ?_) (a' := ?_) #[true, true, true, true, true, true, true, true, true, true, true, false, false] rfl rfl (take_ofW HT_.out HW_.out (by kernel_rfl)) (fun _ _ _ h => h) (Or.inl ⟨by rfl, ?_⟩) hHeld ?_ ?_
          rotate_left
          · rintro w' ⟨s0, s1⟩
            go_simp
            with_reducible rfl
          rotate_left
          · simp only [Act.put, List.setIfInBounds_toArray, List.set_cons_zero, List.set_cons_succ]
            rfl
          refine one_ (i := 11) (N := some 124) #[true, true, true, true, true, true, true, true, true, true, true, true, false] rfl rfl (one_of HT_.out (by kernel_rfl)) (by decide) (fun K hK => ?_)
          refine goes_ Try.func27 (by kernel_rfl) rfl #[.slice (some ad2) r'.l.length c2, .int .i64 xt] (by rfl) rfl rfl (by (try simp only [List.map_toArray, List.map_cons, List.map_nil]); first | done | rfl) ?_
          refine (refAt_' (Kd.F_now HL.out) H2.out HLen.out xt HAi.out).mono ?_
          rintro e w9 ⟨rfl, q7, rfl⟩
          refine ⟨_, rfl, ?_⟩
          have hb := drewN_below' wd q7
          replace HDu := Lib.hid (HDu.out.below hb)
          replace HBx := Lib.hid (HBx.out.trans (hb.mono HBx.out.size))
          replace HDb := Lib.hid (HDb.out.below hb)
          replace HL := Lib.hid (Kd.F_below HL.out hb)
          replace HP := Lib.hid (HP.out.below hb)
          clear hb n5
          obtain ⟨ad6, e6, n0, ncc, nlt⟩ := (HAc.out.below HBx.out) k _ HA.out
          injection e6 with e6
          subst e6
          have n5 := ncc 5 _ rfl
          clear n0 ncc nlt
          simp only [] at n5
          refine hK.out _ _ ⟨HDb.out.cell (j := 3) rfl, n5⟩ (fun hNew => ?_)
          clear hK K hHeld
          have hHeld := hNew
          clear hNew
          refine norm_ (a' := ?_) ?_ ?_
          rotate_left
          · show Act.put _ (some 124) _ = _
            simp only [Act.put, List.setIfInBounds_toArray, List.set_cons_zero, List.set_cons_succ]
            rfl
          refine pure_ (i := 12) (N := some 13) (v := ?_) (a' := ?_) #[true, true, true, true, true, true, true, true, true, true, true, true, true] rfl rfl (any_of HT_.out (by kernel_rfl)) (fun _ _ _ h => h) (Or.inl ⟨by rfl, ?_⟩) ?_ ?_
          rotate_left
          · intro w'
            go_simp
            with_reducible rfl
          rotate_left
          · simp only [Act.put, List.setIfInBounds_toArray, List.set_cons_zero, List.set_cons_succ]
            rfl
          refine done_ (done_of HT_.out (by kernel_rfl)) ?_
          clear hHeld HT_ HW_ n5
          generalize wd.drewN q7 = wv at *
          have p0 := HP.out.cell (j := 0) rfl
          have p1 := HP.out.cell (j := 1) rfl
          have d3 := HDb.out.cell (j := 3) rfl
          obtain ⟨ad2, hA2, r0, r1, r2, r3, r4, r5⟩ := row_at (Kd.F_now HL.out) HAy.out
          cases hA2
          have hkk := (List.getElem?_eq_some_iff.1 HAy.out).1
          have hi0 : (0 : Int) ≤ kk := by omega
          have hin : (kk : Int) < r'.l.length := by omega
          have e1 : (kk : Int).toNat = kk := by omega
          dsimp only at r0 r1
          go_wp2_with fail
          go_quiet (fail)
          go_wp2_with fail
          go_roundw
          case rel => exact ⟨k + 1, O', S', U', t', r', A'', c'', told', by omega, by go_num, rfl, HDu.out.below (by repeat (first | exact Below.refl _ _ | refine bdn ?_ _)), HBx.out.trans ((by repeat (first | exact Below.refl _ _ | refine bdn ?_ _) : Below _ _ _).mono HBx.out.size)⟩
          case measure => simp [intOf]; omega
    · go_wp2_with fail
      go_ret
      exact ⟨rfl, HB.out⟩
end Go.Proofs.Ytccfjjaljckinaa.Tag
