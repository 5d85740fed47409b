/- Issuing an operation, where it goes well. -/
import Derived.Test.YtccfjjaljckinaaTagJ
namespace Go.Proofs.Ytccfjjaljckinaa.Tag
open Go.RowKit Go.Lib Go.Shelf Go.Proofs.Ytccfjjaljckinaa.Mem Go.Proofs.Ytccfjjaljckinaa.IMap Go.Proofs.YtccfjjaljckinaaW.PrintWords

section
variable {w : World} {B M : Nat} {v : Value} {t : Tab}
set_option maxRecDepth 100000 in
set_option maxHeartbeats 4000000 in
theorem issue_true (h : TabV w B M v t) {x : Int} {key : Int} (hx : In64 x) (hk : In64 key) (he : mayE t x = 0) (hroom : t.slots.length + 1 ≤ 1000000) (hser : t.serial < 9223372036854775807) :
    Calls Try.prog 11 #[.pointer (some ⟨B, 0, none⟩), .int .i64 x, .bool true, .int .i64 key] w fun e w' => e = .returned (.tuple #[aggListed (freeI t) (lastI t + 1) (issueOp t x true key), .int .i64 0]) ∧ ∃ v', TabV w' B M v' (issueT t x true key) ∧
      Chg (fun k => k = B ∨ k = M ∨ v.ownBlock = some k) w w' ∧ (v'.ownBlock = v.ownBlock ∨ ∃ k, v'.ownBlock = some k ∧ w.heap.size ≤ k) := by
  have hms := he
  have hcap : (liveN t.slots : Int) ≠ t.cap := by intro e; unfold mayE at he; rw [if_pos e] at he; cases he
  have hnt : timesOf t.slots x = none := by
    unfold mayE at he
    rw [if_neg hcap] at he
    cases hf : timesOf t.slots x with
    | none => rfl
    | some y => rw [hf] at he; simp at he
  obtain ⟨s, hs, hsg, hsl, hla⟩ := free_slot t
  have CM : Hid (∀ w1, Below w.heap.size w w1 → Calls Try.prog 29 #[.pointer (some ⟨B, 0, none⟩), .int .i64 x] w1 fun e w' => e = .returned (.int .i64 0) ∧ ∃ n, w' = w1.drewN n) := Lib.hid (fun w1 hb => by have := may (h.fresh hb) hx; rw [he] at this; exact this)
  have hu34 := Try.underlying34
  have hu32 := Try.underlying32
  have hu30 := Try.underlying30
  have hu28 := Try.underlying28
  have HT := Lib.hid h
  have HS := Lib.hid hs
  have HNT := Lib.hid hnt
  have HX := Lib.hid hx
  have HK := Lib.hid hk
  have HRoom := Lib.hid hroom
  have HSer := Lib.hid hser
  have HLa := Lib.hid hla
  have HSG := Lib.hid hsg
  have HSL := Lib.hid hsl
  have hBl := h.head.lt
  have hMl := h.map.lt
  have HVl : Hid (∀ k, v.ownBlock = some k → k < w.heap.size) := Lib.hid (fun k hk => h.ltV hk)
  have hs1 : -9223372036854775808 ≤ t.serial := h.good.serial.1
  have hs2 := hser
  clear h hx he hms hcap hnt hs hsg hsl hla hk hroom hser
  unfold aggListed
  go_enter Try.func11, Try.ntmps11
  go_wp2_with fail
  refine gw (fun wa hwa => ?_)
  have HB1 : Hid (Below w.heap.size w wa) := Lib.hid (by rw [← hwa]; exact (Below.refl _ _).alloc (Nat.le_refl _) _)
  have HX1 : Hid (Blk wa w.heap.size #[.int .i64 0, .int .i64 0, .int .i64 0, .bool false, .int .i64 0, .int .i64 0] 34) := Lib.hid (by rw [← hwa]; exact Blk.new _ _ _)
  clear hwa
  refine (CM.out _ HB1.out).mono ?_
  rintro e w2 ⟨rfl, n, rfl⟩
  have HX2 : Hid (Blk (wa.drewN n) w.heap.size #[.int .i64 0, .int .i64 0, .int .i64 0, .bool false, .int .i64 0, .int .i64 0] 34) := Lib.hid (HX1.out.drewN n)
  have HB2 : Hid (Below w.heap.size w (wa.drewN n)) := Lib.hid (bdn HB1.out n)
  generalize wa.drewN n = w2 at *
  have c1 : w2.cell? ⟨B, 1, none⟩ = some (.int .i64 t.serial) := bcell HB2.out HT.out.c1 hBl
  have hsz2 : w.heap.size < w2.heap.size := HX2.out.lt
  clear HB1 HX1 CM
  go_wp2_with fail
  refine gw (fun wb hwb => ?_)
  have HBb : Hid (Below w.heap.size w wb) := Lib.hid (by rw [← hwb]; first | exact HB2.out.alloc HB2.out.size _ | exact (HB2.out.alloc HB2.out.size _).setCell HB2.out.size _)
  have HXb : Hid (Blk wb w.heap.size #[.int .i64 0, .int .i64 0, .int .i64 0, .bool false, .int .i64 0, .int .i64 0] 34) := Lib.hid (by rw [← hwb]; first | exact HX2.out.alloc _ | exact (HX2.out.alloc _).far (by simp; omega) _)
  have HOb : Hid (Blk wb w2.heap.size #[.int .i64 x, .bool true, .int .i64 key, .int .i64 t.serial] 32) := Lib.hid (by rw [← hwb]; first | exact Blk.new _ _ _ | exact (Blk.new _ _ _).set 2 _)
  have hszb : w2.heap.size < wb.heap.size := HOb.out.lt
  have HTb := Lib.hid (HT.out.fresh HBb.out)
  clear hwb c1
  refine (free_any HTb.out HRoom.out).mono ?_
  rintro e w3 ⟨rfl, v', ht3, hc3, ho3⟩
  have HT3 := Lib.hid ht3
  have HC3 := Lib.hid hc3
  have HO3 := Lib.hid ho3
  have hnB : ∀ k, w.heap.size ≤ k → k < wb.heap.size → ¬ (k = B ∨ v.ownBlock = some k) := fun k h1 h2 h => by
    rcases h with h | h
    · omega
    · have := HVl.out k h; omega
  have HX3 : Hid (Blk w3 w.heap.size #[.int .i64 0, .int .i64 0, .int .i64 0, .bool false, .int .i64 0, .int .i64 0] 34) := Lib.hid (HXb.out.keep hc3 (hnB _ (Nat.le_refl _) (by omega)))
  have HP3 : Hid (Blk w3 w2.heap.size #[.int .i64 x, .bool true, .int .i64 key, .int .i64 t.serial] 32) := Lib.hid (HOb.out.keep hc3 (hnB _ (by omega) hszb))
  have hV' : ∀ k, v'.ownBlock = some k → k < w.heap.size ∨ wb.heap.size ≤ k := fun k hk => by
    rcases ho3 with e | ⟨j, e, hj⟩
    · exact Or.inl (HVl.out k (by rw [← e]; exact hk))
    · rw [e] at hk; injection hk with hk; omega
  have HV' := Lib.hid hV'
  obtain ⟨R, cap, hv3, hR, hle, hRB, hRM, hcc, hfr⟩ := ht3.cells HS.out
  have HV3 := Lib.hid hv3
  have d2 : w3.cell? ⟨B, 2, none⟩ = some (.slice (some ⟨R, 0, none⟩) (freeT t).slots.length cap) := by rw [← hv3]; exact ht3.c2
  have k0 : w3.cell? ⟨R, freeI t * 6, none⟩ = some (.int .i64 s.last) := hcc 0 _ rfl
  have hlt : freeI t < (freeT t).slots.length := (List.getElem?_eq_some_iff.1 HS.out).1
  have hfew := ht3.good.few
  have hl0 := (ht3.good.slots s (List.mem_of_getElem? HS.out)).last0
  have hl1 := HSL.out
  have hsz3 := hc3.size
  clear ht3 hc3 ho3 hnB hV' hv3 hle hcc hfr HXb HOb
  have HFI : Hid (∃ i, freeI t = i) := Lib.hid ⟨_, rfl⟩
  generalize hN : (freeT t).slots.length = N at *
  have HN := Lib.hid hN
  clear hN
  generalize hI : freeI t = i at *
  have HI := Lib.hid hI
  clear hI HFI
  have hi0 : (0 : Int) ≤ i := by omega
  have hiN : (i : Int) < N := by omega
  have e1 : (i : Int).toNat = i := by omega
  have o0 := HP3.out.cell (j := 0) rfl
  have o1 := HP3.out.cell (j := 1) rfl
  have o2 := HP3.out.cell (j := 2) rfl
  have o3 := HP3.out.cell (j := 3) rfl
  have hszP : w2.heap.size < w3.heap.size := HP3.out.lt
  go_wp2_with fail
  refine gw (fun wc hwc => ?_)
  have HBc : Hid (Below w3.heap.size w3 wc) := Lib.hid (by rw [← hwc]; exact (Below.refl _ _).alloc (Nat.le_refl _) _)
  have HRc : Hid (Blk wc w3.heap.size #[.int .i64 i, .int .i64 (s.last + 1)] 28) := Lib.hid (by rw [← hwc]; exact Blk.new _ _ _)
  have hszc : w3.heap.size < wc.heap.size := HRc.out.lt
  have HTc := Lib.hid (HT3.out.fresh HBc.out)
  clear hwc d2 k0 o0 o1 o2 o3
  have hlay := lay (g := s.last + 1) (o := ⟨x, true, key, t.serial⟩) HTc.out HS.out (by rw [HSG.out]; decide) (by omega) (by omega) ⟨HX.out, HK.out, hs1, by show t.serial ≤ _; omega⟩ ((free_times t x).trans HNT.out)
  rw [show (if s.last + 1 ≤ s.last then s.last else s.last + 1) = s.last + 1 from if_neg (by omega)] at hlay
  unfold aggOp at hlay
  try rw [HI.out] at hlay
  refine hlay.mono ?_
  rintro e w4 ⟨rfl, ht4, hc4⟩
  have HT4 := Lib.hid ht4
  have HC4 := Lib.hid hc4
  have hnK : ∀ k, w.heap.size ≤ k → k < wb.heap.size ∨ w3.heap.size ≤ k → ¬ (k = M ∨ v'.ownBlock = some k) := fun k h1 h2 h => by
    rcases h with h | h
    · omega
    · have h3 := HV'.out k h
      have h4 := HT3.out.ltV h
      omega
  have HX4 : Hid (Blk w4 w.heap.size #[.int .i64 0, .int .i64 0, .int .i64 0, .bool false, .int .i64 0, .int .i64 0] 34) := Lib.hid ((HX3.out.below HBc.out).keep hc4 (hnK _ (Nat.le_refl _) (by omega)))
  have HP4 : Hid (Blk w4 w2.heap.size #[.int .i64 x, .bool true, .int .i64 key, .int .i64 t.serial] 32) := Lib.hid ((HP3.out.below HBc.out).keep hc4 (hnK _ (by omega) (by omega)))
  have HR4 : Hid (Blk w4 w3.heap.size #[.int .i64 i, .int .i64 (s.last + 1)] 28) := Lib.hid (HRc.out.keep hc4 (hnK _ (by omega) (Or.inr (Nat.le_refl _))))
  have c1 : w4.cell? ⟨B, 1, none⟩ = some (.int .i64 t.serial) := by have := ht4.c1; simp only [(freeT_cap t).2] at this; exact this
  have q1 : w4.frozen? ⟨B, 1, none⟩ = false := ht4.head.free 1
  have x0 := HX4.out.cell (j := 0) rfl
  have x1 := HX4.out.cell (j := 1) rfl
  have x2 := HX4.out.cell (j := 2) rfl
  have x3 := HX4.out.cell (j := 3) rfl
  have x4 := HX4.out.cell (j := 4) rfl
  have x5 := HX4.out.cell (j := 5) rfl
  have f0 := HX4.out.free 0
  have f1 := HX4.out.free 1
  have f2 := HX4.out.free 2
  have f3 := HX4.out.free 3
  have f4 := HX4.out.free 4
  have f5 := HX4.out.free 5
  have p0 := HP4.out.cell (j := 0) rfl
  have p1 := HP4.out.cell (j := 1) rfl
  have p2 := HP4.out.cell (j := 2) rfl
  have p3 := HP4.out.cell (j := 3) rfl
  have r0 := HR4.out.cell (j := 0) rfl
  have r1 := HR4.out.cell (j := 1) rfl
  have hsz4 := hc4.size
  have hBX : B ≠ w.heap.size := by omega
  have hBP : B ≠ w2.heap.size := by omega
  have hBR : B ≠ w3.heap.size := by omega
  clear hlay ht4 hc4 hnK HX3 HP3 HRc
  go_wp2_with fail
  refine gwB (fun wz hwz => ?_)
  have HZ : Hid (Blk wz w.heap.size #[.int .i64 i, .int .i64 (s.last + 1), .int .i64 x, .bool true, .int .i64 key, .int .i64 t.serial] 34) := Lib.hid (by
    rw [← hwz]
    exact ((((((blk_far HX4.out (Ne.symm hBX)).set 0 _).set 1 _).set 2 _).set 3 _).set 4 _).set 5 _)
  have HCz : Hid (Chg (fun k => k = B ∨ k = w.heap.size) w4 wz) := Lib.hid (by
    rw [← hwz]
    exact chg2 (chg2 (chg2 (chg2 (chg2 (chg2 (chg2 (Chg.refl _ w4) (.inl rfl)) (.inr rfl)) (.inr rfl)) (.inr rfl)) (.inr rfl)) (.inr rfl)) (.inr rfl))
  have HHz : Hid (Blk wz B #[.int .i64 (freeT t).cap, .int .i64 (t.serial + 1), v', .map (some M)] 70) := Lib.hid (by
    rw [← hwz]
    exact blk_far (blk_far (blk_far (blk_far (blk_far (blk_far (HT4.out.head.set 1 _) hBX) hBX) hBX) hBX) hBX) hBX)
  clear hwz
  refine bodyPost_ret (results_ct rfl _ _ w.heap.size 34 _ (0, 0) _ rfl HZ.out Try.underlying34 rfl (by kernel_rfl)) rfl ?_
  have hLT : s.last = lastI t := HLa.out
  have hset : (issueT t x true key).slots = (freeT t).slots.set i ⟨s.last + 1, s.last + 1, ⟨x, true, key, t.serial⟩⟩ := by
    unfold issueT issueOp
    rw [HI.out, ← hLT]
    rfl
  have hgood : Good (issueT t x true key) := by
    have h4 := HT4.out.good
    refine ⟨h4.cap0, h4.cap1, ⟨by show _ ≤ t.serial + 1; omega, by show t.serial + 1 ≤ _; omega⟩, ?_, ?_, ?_⟩
    · rw [hset]; exact h4.slots
    · rw [hset]; exact h4.times
    · rw [hset]; exact h4.few
  have hvX : ∀ k, v'.ownBlock = some k → ¬ (k = B ∨ k = w.heap.size) := fun k hk h => by
    rcases h with h | h
    · have h5 := HV3.out
      rw [h5] at hk
      have : R = k := by simpa [Value.ownBlock] using hk
      omega
    · have := HV'.out k hk; omega
  refine ⟨?_, v', TabV.of (t' := issueT t x true key) (f := timesOf (issueT t x true key).slots) (n := liveN (issueT t x true key).slots) (m := liveN (issueT t x true key).slots) (xs := cellsOf (issueT t x true key).slots) HHz.out ?_ rfl ?_ rfl (fun _ => rfl) hgood, ?_, ?_⟩
  · rw [← hLT, HI.out]; rfl
  · have := row_chg HT4.out.row HCz.out hvX
    rw [hset]
    exact this
  · have := HT4.out.map.keep (HCz.out.block M (by omega) (by have := HT4.out.BM; omega))
    rw [hset]
    exact this
  · have a1 : Chg (fun k => k = B ∨ k = M ∨ v.ownBlock = some k) w w3 := (Chg.of_below (S := fun k => k = B ∨ k = M ∨ v.ownBlock = some k) HBb.out).trans HC3.out (fun k _ h => by rcases h with h | h; exact Or.inl h; exact Or.inr (Or.inr h))
    have a2 : Chg (fun k => k = B ∨ k = M ∨ v.ownBlock = some k) w wc := a1.trans (Chg.of_below (S := fun _ => False) HBc.out) (fun _ _ h => h.elim)
    have a3 : Chg (fun k => k = B ∨ k = M ∨ v.ownBlock = some k) w w4 := a2.trans HC4.out (fun k hk h => by
      rcases h with h | h
      · exact Or.inr (Or.inl h)
      · rcases HO3.out with e | ⟨j, e, hj⟩
        · exact Or.inr (Or.inr (by rw [← e]; exact h))
        · rw [e] at h; injection h with h; omega)
    exact a3.trans HCz.out (fun k hk h => by
      rcases h with h | h
      · exact Or.inl h
      · omega)
  · rcases HO3.out with e | ⟨j, e, hj⟩
    · exact Or.inl e
    · exact Or.inr ⟨j, e, by omega⟩

set_option maxRecDepth 100000 in
set_option maxHeartbeats 4000000 in
theorem issue_false (h : TabV w B M v t) {x : Int} {key : Int} (hx : In64 x) (hk : In64 0) (he : mayE t x = 0) (hroom : t.slots.length + 1 ≤ 1000000) (hser : t.serial < 9223372036854775807) :
    Calls Try.prog 11 #[.pointer (some ⟨B, 0, none⟩), .int .i64 x, .bool false, .int .i64 key] w fun e w' => e = .returned (.tuple #[aggListed (freeI t) (lastI t + 1) (issueOp t x false key), .int .i64 0]) ∧ ∃ v', TabV w' B M v' (issueT t x false key) ∧
      Chg (fun k => k = B ∨ k = M ∨ v.ownBlock = some k) w w' ∧ (v'.ownBlock = v.ownBlock ∨ ∃ k, v'.ownBlock = some k ∧ w.heap.size ≤ k) := by
  have hms := he
  have hcap : (liveN t.slots : Int) ≠ t.cap := by intro e; unfold mayE at he; rw [if_pos e] at he; cases he
  have hnt : timesOf t.slots x = none := by
    unfold mayE at he
    rw [if_neg hcap] at he
    cases hf : timesOf t.slots x with
    | none => rfl
    | some y => rw [hf] at he; simp at he
  obtain ⟨s, hs, hsg, hsl, hla⟩ := free_slot t
  have CM : Hid (∀ w1, Below w.heap.size w w1 → Calls Try.prog 29 #[.pointer (some ⟨B, 0, none⟩), .int .i64 x] w1 fun e w' => e = .returned (.int .i64 0) ∧ ∃ n, w' = w1.drewN n) := Lib.hid (fun w1 hb => by have := may (h.fresh hb) hx; rw [he] at this; exact this)
  have hu34 := Try.underlying34
  have hu32 := Try.underlying32
  have hu30 := Try.underlying30
  have hu28 := Try.underlying28
  have HT := Lib.hid h
  have HS := Lib.hid hs
  have HNT := Lib.hid hnt
  have HX := Lib.hid hx
  have HK := Lib.hid hk
  have HRoom := Lib.hid hroom
  have HSer := Lib.hid hser
  have HLa := Lib.hid hla
  have HSG := Lib.hid hsg
  have HSL := Lib.hid hsl
  have hBl := h.head.lt
  have hMl := h.map.lt
  have HVl : Hid (∀ k, v.ownBlock = some k → k < w.heap.size) := Lib.hid (fun k hk => h.ltV hk)
  have hs1 : -9223372036854775808 ≤ t.serial := h.good.serial.1
  have hs2 := hser
  clear h hx he hms hcap hnt hs hsg hsl hla hk hroom hser
  unfold aggListed
  go_enter Try.func11, Try.ntmps11
  go_wp2_with fail
  refine gw (fun wa hwa => ?_)
  have HB1 : Hid (Below w.heap.size w wa) := Lib.hid (by rw [← hwa]; exact (Below.refl _ _).alloc (Nat.le_refl _) _)
  have HX1 : Hid (Blk wa w.heap.size #[.int .i64 0, .int .i64 0, .int .i64 0, .bool false, .int .i64 0, .int .i64 0] 34) := Lib.hid (by rw [← hwa]; exact Blk.new _ _ _)
  clear hwa
  refine (CM.out _ HB1.out).mono ?_
  rintro e w2 ⟨rfl, n, rfl⟩
  have HX2 : Hid (Blk (wa.drewN n) w.heap.size #[.int .i64 0, .int .i64 0, .int .i64 0, .bool false, .int .i64 0, .int .i64 0] 34) := Lib.hid (HX1.out.drewN n)
  have HB2 : Hid (Below w.heap.size w (wa.drewN n)) := Lib.hid (bdn HB1.out n)
  generalize wa.drewN n = w2 at *
  have c1 : w2.cell? ⟨B, 1, none⟩ = some (.int .i64 t.serial) := bcell HB2.out HT.out.c1 hBl
  have hsz2 : w.heap.size < w2.heap.size := HX2.out.lt
  clear HB1 HX1 CM
  go_wp2_with fail
  refine gw (fun wb hwb => ?_)
  have HBb : Hid (Below w.heap.size w wb) := Lib.hid (by rw [← hwb]; first | exact HB2.out.alloc HB2.out.size _ | exact (HB2.out.alloc HB2.out.size _).setCell HB2.out.size _)
  have HXb : Hid (Blk wb w.heap.size #[.int .i64 0, .int .i64 0, .int .i64 0, .bool false, .int .i64 0, .int .i64 0] 34) := Lib.hid (by rw [← hwb]; first | exact HX2.out.alloc _ | exact (HX2.out.alloc _).far (by simp; omega) _)
  have HOb : Hid (Blk wb w2.heap.size #[.int .i64 x, .bool false, .int .i64 0, .int .i64 t.serial] 32) := Lib.hid (by rw [← hwb]; first | exact Blk.new _ _ _ | exact (Blk.new _ _ _).set 2 _)
  have hszb : w2.heap.size < wb.heap.size := HOb.out.lt
  have HTb := Lib.hid (HT.out.fresh HBb.out)
  clear hwb c1
  refine (free_any HTb.out HRoom.out).mono ?_
  rintro e w3 ⟨rfl, v', ht3, hc3, ho3⟩
  have HT3 := Lib.hid ht3
  have HC3 := Lib.hid hc3
  have HO3 := Lib.hid ho3
  have hnB : ∀ k, w.heap.size ≤ k → k < wb.heap.size → ¬ (k = B ∨ v.ownBlock = some k) := fun k h1 h2 h => by
    rcases h with h | h
    · omega
    · have := HVl.out k h; omega
  have HX3 : Hid (Blk w3 w.heap.size #[.int .i64 0, .int .i64 0, .int .i64 0, .bool false, .int .i64 0, .int .i64 0] 34) := Lib.hid (HXb.out.keep hc3 (hnB _ (Nat.le_refl _) (by omega)))
  have HP3 : Hid (Blk w3 w2.heap.size #[.int .i64 x, .bool false, .int .i64 0, .int .i64 t.serial] 32) := Lib.hid (HOb.out.keep hc3 (hnB _ (by omega) hszb))
  have hV' : ∀ k, v'.ownBlock = some k → k < w.heap.size ∨ wb.heap.size ≤ k := fun k hk => by
    rcases ho3 with e | ⟨j, e, hj⟩
    · exact Or.inl (HVl.out k (by rw [← e]; exact hk))
    · rw [e] at hk; injection hk with hk; omega
  have HV' := Lib.hid hV'
  obtain ⟨R, cap, hv3, hR, hle, hRB, hRM, hcc, hfr⟩ := ht3.cells HS.out
  have HV3 := Lib.hid hv3
  have d2 : w3.cell? ⟨B, 2, none⟩ = some (.slice (some ⟨R, 0, none⟩) (freeT t).slots.length cap) := by rw [← hv3]; exact ht3.c2
  have k0 : w3.cell? ⟨R, freeI t * 6, none⟩ = some (.int .i64 s.last) := hcc 0 _ rfl
  have hlt : freeI t < (freeT t).slots.length := (List.getElem?_eq_some_iff.1 HS.out).1
  have hfew := ht3.good.few
  have hl0 := (ht3.good.slots s (List.mem_of_getElem? HS.out)).last0
  have hl1 := HSL.out
  have hsz3 := hc3.size
  clear ht3 hc3 ho3 hnB hV' hv3 hle hcc hfr HXb HOb
  have HFI : Hid (∃ i, freeI t = i) := Lib.hid ⟨_, rfl⟩
  generalize hN : (freeT t).slots.length = N at *
  have HN := Lib.hid hN
  clear hN
  generalize hI : freeI t = i at *
  have HI := Lib.hid hI
  clear hI HFI
  have hi0 : (0 : Int) ≤ i := by omega
  have hiN : (i : Int) < N := by omega
  have e1 : (i : Int).toNat = i := by omega
  have o0 := HP3.out.cell (j := 0) rfl
  have o1 := HP3.out.cell (j := 1) rfl
  have o2 := HP3.out.cell (j := 2) rfl
  have o3 := HP3.out.cell (j := 3) rfl
  have hszP : w2.heap.size < w3.heap.size := HP3.out.lt
  go_wp2_with fail
  refine gw (fun wc hwc => ?_)
  have HBc : Hid (Below w3.heap.size w3 wc) := Lib.hid (by rw [← hwc]; exact (Below.refl _ _).alloc (Nat.le_refl _) _)
  have HRc : Hid (Blk wc w3.heap.size #[.int .i64 i, .int .i64 (s.last + 1)] 28) := Lib.hid (by rw [← hwc]; exact Blk.new _ _ _)
  have hszc : w3.heap.size < wc.heap.size := HRc.out.lt
  have HTc := Lib.hid (HT3.out.fresh HBc.out)
  clear hwc d2 k0 o0 o1 o2 o3
  have hlay := lay (g := s.last + 1) (o := ⟨x, false, 0, t.serial⟩) HTc.out HS.out (by rw [HSG.out]; decide) (by omega) (by omega) ⟨HX.out, HK.out, hs1, by show t.serial ≤ _; omega⟩ ((free_times t x).trans HNT.out)
  rw [show (if s.last + 1 ≤ s.last then s.last else s.last + 1) = s.last + 1 from if_neg (by omega)] at hlay
  unfold aggOp at hlay
  try rw [HI.out] at hlay
  refine hlay.mono ?_
  rintro e w4 ⟨rfl, ht4, hc4⟩
  have HT4 := Lib.hid ht4
  have HC4 := Lib.hid hc4
  have hnK : ∀ k, w.heap.size ≤ k → k < wb.heap.size ∨ w3.heap.size ≤ k → ¬ (k = M ∨ v'.ownBlock = some k) := fun k h1 h2 h => by
    rcases h with h | h
    · omega
    · have h3 := HV'.out k h
      have h4 := HT3.out.ltV h
      omega
  have HX4 : Hid (Blk w4 w.heap.size #[.int .i64 0, .int .i64 0, .int .i64 0, .bool false, .int .i64 0, .int .i64 0] 34) := Lib.hid ((HX3.out.below HBc.out).keep hc4 (hnK _ (Nat.le_refl _) (by omega)))
  have HP4 : Hid (Blk w4 w2.heap.size #[.int .i64 x, .bool false, .int .i64 0, .int .i64 t.serial] 32) := Lib.hid ((HP3.out.below HBc.out).keep hc4 (hnK _ (by omega) (by omega)))
  have HR4 : Hid (Blk w4 w3.heap.size #[.int .i64 i, .int .i64 (s.last + 1)] 28) := Lib.hid (HRc.out.keep hc4 (hnK _ (by omega) (Or.inr (Nat.le_refl _))))
  have c1 : w4.cell? ⟨B, 1, none⟩ = some (.int .i64 t.serial) := by have := ht4.c1; simp only [(freeT_cap t).2] at this; exact this
  have q1 : w4.frozen? ⟨B, 1, none⟩ = false := ht4.head.free 1
  have x0 := HX4.out.cell (j := 0) rfl
  have x1 := HX4.out.cell (j := 1) rfl
  have x2 := HX4.out.cell (j := 2) rfl
  have x3 := HX4.out.cell (j := 3) rfl
  have x4 := HX4.out.cell (j := 4) rfl
  have x5 := HX4.out.cell (j := 5) rfl
  have f0 := HX4.out.free 0
  have f1 := HX4.out.free 1
  have f2 := HX4.out.free 2
  have f3 := HX4.out.free 3
  have f4 := HX4.out.free 4
  have f5 := HX4.out.free 5
  have p0 := HP4.out.cell (j := 0) rfl
  have p1 := HP4.out.cell (j := 1) rfl
  have p2 := HP4.out.cell (j := 2) rfl
  have p3 := HP4.out.cell (j := 3) rfl
  have r0 := HR4.out.cell (j := 0) rfl
  have r1 := HR4.out.cell (j := 1) rfl
  have hsz4 := hc4.size
  have hBX : B ≠ w.heap.size := by omega
  have hBP : B ≠ w2.heap.size := by omega
  have hBR : B ≠ w3.heap.size := by omega
  clear hlay ht4 hc4 hnK HX3 HP3 HRc
  go_wp2_with fail
  refine gwB (fun wz hwz => ?_)
  have HZ : Hid (Blk wz w.heap.size #[.int .i64 i, .int .i64 (s.last + 1), .int .i64 x, .bool false, .int .i64 0, .int .i64 t.serial] 34) := Lib.hid (by
    rw [← hwz]
    exact ((((((blk_far HX4.out (Ne.symm hBX)).set 0 _).set 1 _).set 2 _).set 3 _).set 4 _).set 5 _)
  have HCz : Hid (Chg (fun k => k = B ∨ k = w.heap.size) w4 wz) := Lib.hid (by
    rw [← hwz]
    exact chg2 (chg2 (chg2 (chg2 (chg2 (chg2 (chg2 (Chg.refl _ w4) (.inl rfl)) (.inr rfl)) (.inr rfl)) (.inr rfl)) (.inr rfl)) (.inr rfl)) (.inr rfl))
  have HHz : Hid (Blk wz B #[.int .i64 (freeT t).cap, .int .i64 (t.serial + 1), v', .map (some M)] 70) := Lib.hid (by
    rw [← hwz]
    exact blk_far (blk_far (blk_far (blk_far (blk_far (blk_far (HT4.out.head.set 1 _) hBX) hBX) hBX) hBX) hBX) hBX)
  clear hwz
  refine bodyPost_ret (results_ct rfl _ _ w.heap.size 34 _ (0, 0) _ rfl HZ.out Try.underlying34 rfl (by kernel_rfl)) rfl ?_
  have hLT : s.last = lastI t := HLa.out
  have hset : (issueT t x false key).slots = (freeT t).slots.set i ⟨s.last + 1, s.last + 1, ⟨x, false, 0, t.serial⟩⟩ := by
    unfold issueT issueOp
    rw [HI.out, ← hLT]
    rfl
  have hgood : Good (issueT t x false key) := by
    have h4 := HT4.out.good
    refine ⟨h4.cap0, h4.cap1, ⟨by show _ ≤ t.serial + 1; omega, by show t.serial + 1 ≤ _; omega⟩, ?_, ?_, ?_⟩
    · rw [hset]; exact h4.slots
    · rw [hset]; exact h4.times
    · rw [hset]; exact h4.few
  have hvX : ∀ k, v'.ownBlock = some k → ¬ (k = B ∨ k = w.heap.size) := fun k hk h => by
    rcases h with h | h
    · have h5 := HV3.out
      rw [h5] at hk
      have : R = k := by simpa [Value.ownBlock] using hk
      omega
    · have := HV'.out k hk; omega
  refine ⟨?_, v', TabV.of (t' := issueT t x false key) (f := timesOf (issueT t x false key).slots) (n := liveN (issueT t x false key).slots) (m := liveN (issueT t x false key).slots) (xs := cellsOf (issueT t x false key).slots) HHz.out ?_ rfl ?_ rfl (fun _ => rfl) hgood, ?_, ?_⟩
  · rw [← hLT, HI.out]; rfl
  · have := row_chg HT4.out.row HCz.out hvX
    rw [hset]
    exact this
  · have := HT4.out.map.keep (HCz.out.block M (by omega) (by have := HT4.out.BM; omega))
    rw [hset]
    exact this
  · have a1 : Chg (fun k => k = B ∨ k = M ∨ v.ownBlock = some k) w w3 := (Chg.of_below (S := fun k => k = B ∨ k = M ∨ v.ownBlock = some k) HBb.out).trans HC3.out (fun k _ h => by rcases h with h | h; exact Or.inl h; exact Or.inr (Or.inr h))
    have a2 : Chg (fun k => k = B ∨ k = M ∨ v.ownBlock = some k) w wc := a1.trans (Chg.of_below (S := fun _ => False) HBc.out) (fun _ _ h => h.elim)
    have a3 : Chg (fun k => k = B ∨ k = M ∨ v.ownBlock = some k) w w4 := a2.trans HC4.out (fun k hk h => by
      rcases h with h | h
      · exact Or.inr (Or.inl h)
      · rcases HO3.out with e | ⟨j, e, hj⟩
        · exact Or.inr (Or.inr (by rw [← e]; exact h))
        · rw [e] at h; injection h with h; omega)
    exact a3.trans HCz.out (fun k hk h => by
      rcases h with h | h
      · exact Or.inl h
      · omega)
  · rcases HO3.out with e | ⟨j, e, hj⟩
    · exact Or.inl e
    · exact Or.inr ⟨j, e, by omega⟩
end
end Go.Proofs.Ytccfjjaljckinaa.Tag
