/- The document's box: New, Offer, Take, Pour; Rest. No conditions. -/
import Derived.Test.YtfkbijkmdnieiaaBoxClose
import Derived.Test.YtfkbijkmdnieiaaPileRef
namespace Go.Proofs.Ytfkbijkmdnieiaa.BoxRef
open Go.RowKit Go.Conc Go.Proofs.Ytfkbijkmdnieiaa.Mem Go.Proofs.Ytfkbijkmdnieiaa.BoxInt Go.Proofs.Ytfkbijkmdnieiaa.PileRef Go.Proofs.Ytfkbijkmdnieiaa.PileInt Go.Proofs.YtfkbijkmdnieiaaW.PrintWords

theorem chg_set1 {M : Nat} {w w1 : World} (h : Chg (fun k => k = M) w w1) (j : Nat) (u : Value) : Chg (fun k => k = M) w (w1.setCell ⟨M, j, none⟩ u) := Chg.set (p := ⟨M, j, none⟩) h (fun _ => rfl) u
/-- The document's box: a size, a row, closed or not. -/
def IsRef (w : World) (lo M cap : Nat) (vs : List Int) (cl : Bool) : Prop := ∃ A c, vs.length ≤ c ∧ Blk w M #[.int .i64 cap, .slice A vs.length c, .bool cl] 82 ∧ Seg w lo A vs
theorem IsRef.keep {w w' : World} {lo M cap : Nat} {vs : List Int} {cl : Bool} {S : Nat → Prop} (h : IsRef w lo M cap vs cl) (hc : Chg S w w') (hM : ¬ S M) (hS : ∀ k, lo ≤ k → ¬ S k) : IsRef w' lo M cap vs cl := by
  obtain ⟨A, c, h1, h2, h3⟩ := h
  exact ⟨A, c, h1, h2.keep hc hM, h3.chg hc hS⟩

/-- What the document's New leaves. -/
def MadeRef (s : Nat) (w : World) (e : Ending) (w' : World) : Prop := ∃ M, e = .returned (.pointer (some ⟨M, 0, none⟩)) ∧ Blk w' M #[.int .i64 s, .slice none 0 0, .bool false] 82 ∧ Chg (fun _ => False) w w' ∧ w.heap.size ≤ M

set_option maxRecDepth 100000 in
set_option maxHeartbeats 400000 in
theorem new_ref (n : Int) (w : World) : Calls Try.prog 63 #[.int .i64 n] w (MadeRef (BoxInt.sizeOf n) w) := by
  unfold BoxInt.sizeOf
  by_cases h : n < 1
  · rw [if_pos h]
    go_enter Try.func63, Try.ntmps63
    go_wp2
    go_ret
    exact ⟨_, rfl, Blk.new _ _ _, (Chg.refl _ _).alloc _, Nat.le_refl _⟩
  · rw [if_neg h]
    by_cases h' : 1000 < n
    · rw [if_pos h']
      go_enter Try.func63, Try.ntmps63
      go_wp2
      go_ret
      exact ⟨_, rfl, Blk.new _ _ _, (Chg.refl _ _).alloc _, Nat.le_refl _⟩
    · rw [if_neg h']
      obtain ⟨k, rfl⟩ := Int.eq_ofNat_of_zero_le (show 0 ≤ n by omega)
      go_enter Try.func63, Try.ntmps63
      go_wp2
      go_ret
      exact ⟨_, rfl, Blk.new _ _ _, (Chg.refl _ _).alloc _, Nat.le_refl _⟩

theorem seg_low {w : World} {lo lo' : Nat} {A : Option Addr} {xs : List Int} (h : Seg w lo' A xs) (hl : lo ≤ lo') : Seg w lo A xs := by
  refine ⟨h.1, fun hp => ?_⟩
  obtain ⟨g, o, rfl, hg, hc⟩ := h.2 hp
  exact ⟨g, o, rfl, Nat.le_trans hl hg, hc⟩

/-- What the document's Offer leaves. -/
def Offered (lo M cap : Nat) (vs : List Int) (cl : Bool) (v : Int) (w : World) (e : Ending) (w' : World) : Prop :=
  e = .returned (.bool (!cl && decide (vs.length < cap))) ∧ IsRef w' lo M cap (if !cl && decide (vs.length < cap) then vs ++ [v] else vs) cl ∧ Chg (fun k => k = M) w w'

theorem offered_no {lo M cap : Nat} {vs : List Int} {cl : Bool} {v : Int} {w w' : World} (h : IsRef w lo M cap vs cl) (hc : Chg (fun k => k = M) w w') (hs : Chg (fun _ => False) w w') (hn : (!cl && decide (vs.length < cap)) = false) : Offered lo M cap vs cl v w (.returned (.bool false)) w' := by
  unfold Offered
  rw [hn]
  exact ⟨rfl, by simpa using h.keep hs (by simp) (by simp), hc⟩

set_option maxRecDepth 100000 in
set_option maxHeartbeats 1000000 in
theorem offer_ref (lo M cap : Nat) (vs : List Int) (cl : Bool) (v : Int) (w : World) (h : IsRef w lo M cap vs cl) (hM : M < lo) (hlo : lo ≤ w.heap.size) (hle : vs.length ≤ cap) (hcap : cap ≤ 1000) :
    Calls Try.prog 65 #[.pointer (some ⟨M, 0, none⟩), .int .i64 v] w (Offered lo M cap vs cl v w) := by
  have HH := Lib.hid h
  obtain ⟨A, c, hc, hb, hs⟩ := h
  have c0 := hb.cell (j := 0) rfl
  have c1 := hb.cell (j := 1) rfl
  have c2 := hb.cell (j := 2) rfl
  by_cases hno : cl = true ∨ vs.length = cap
  · have HNO : Hid ((!cl && decide (vs.length < cap)) = false) := Lib.hid (by rcases hno with rfl | e <;> simp; intro _; omega)
    clear hs hb hc hle hcap hlo hM
    rcases hno with rfl | e
    · go_enter Try.func65, Try.ntmps65
      go_wp2
      go_quiet (fail)
      go_wp2
      go_ret
      exact offered_no HH.out ((Chg.refl _ _).drewN _) ((Chg.refl _ _).drewN _) HNO.out
    · cases cl
      · rw [e] at c1
        go_enter Try.func65, Try.ntmps65
        go_wp2
        go_quiet (fail)
        go_wp2
        go_ret
        exact offered_no HH.out ((Chg.refl _ _).drewN _) ((Chg.refl _ _).drewN _) HNO.out
      · go_enter Try.func65, Try.ntmps65
        go_wp2
        go_quiet (fail)
        go_wp2
        go_ret
        exact offered_no HH.out ((Chg.refl _ _).drewN _) ((Chg.refl _ _).drewN _) HNO.out
  · have hcl : cl = false := by cases cl <;> simp_all
    subst hcl
    have hlt : vs.length < cap := by
      have : ¬ vs.length = cap := fun e => hno (Or.inr e)
      omega
    have hnb : ((vs.length : Int) == (cap : Int)) = false := by simp; omega
    have HC := Lib.hid hs.toC
    have HB := Lib.hid hb
    have HLT := Lib.hid hlt
    have HLO := Lib.hid hlo
    have HM := Lib.hid hM
    have HLE := Lib.hid hle
    have HCAP := Lib.hid hcap
    clear hs hb hno hlt hlo hM hle hcap hc HH
    go_enter Try.func65, Try.ntmps65
    go_wp2
    go_quiet (fail)
    obtain ⟨wq, hwq⟩ : ∃ wq, wq = w.drewN nq := ⟨_, rfl⟩
    have HCQ : Hid (Chg (fun _ => False) w wq) := Lib.hid (by subst hwq; exact (Chg.refl _ _).drewN _)
    have HSQ : Hid (w.heap.size = wq.heap.size) := Lib.hid (by subst hwq; rfl)
    rw [← hwq]
    have c0 : wq.cell? ⟨M, 0, none⟩ = _ := (HB.out.keep HCQ.out (by simp)).cell (j := 0) rfl
    have c1 : wq.cell? ⟨M, 1, none⟩ = _ := (HB.out.keep HCQ.out (by simp)).cell (j := 1) rfl
    have HB2 : Hid (Blk wq M _ 82) := Lib.hid (HB.out.keep HCQ.out (by simp))
    have HC2 : Hid (Kd.C (Kd.int .i64) wq A vs.length vs) := Lib.hid (Kd.C_below HC.out ⟨HCQ.out.os, HCQ.out.tape, HCQ.out.output, HCQ.out.size, fun k hk => HCQ.out.block k hk (by simp)⟩)
    clear hwq hnb HC HB
    go_wp2_with (first
      | (refine gate_dst (N := 22) rfl ?_; refine Kd.R_lit (Kd.int .i64) wq.heap.size 3 ?_ (N := 22) ?_ (xs := ([] : List Int)) (inner := []) (ok := fun k => wq.heap.size ≤ k) (okp := fun _ => False) ?_ ?_ (fun _ hk => hk.elim) (Nat.le_refl _) (Below.refl _ _) (Nat.le_refl _) (by simp) ?_; rfl; rfl; (next => first | (go_simp; done) | (go_simp; rfl)); exact Reps.none _ _; intro ve we hE hbE _ _; have HCl2 := Lib.hid (Kd.C_below HC2.out hbE); have hbk := HB2.out.below hbE; have e1 := hbk.cell (j := 1) rfl; clear hbk)
      | (refine gate_dst (N := 27) rfl ?_; refine Kd.R_append_row (Value.int .i64) 0 (w0 := wq) wq.heap.size ?_ (.tmp 22) (.tmp 26) 29 3 (.int .i64 0) 8 ?_ Try.underlying29 PileInt.info3 rfl (by decide) _ [] vs A vs.length c (fun k => wq.heap.size ≤ k) rfl rfl ?_ hE HCl2.out hbE hbE.size ?_ ?_; rfl; rfl; exact (fun k hk => Nat.le_trans hbE.size hk); (have := HLE.out; have := HCAP.out; simp; omega); intro v6 w6 hR6 hB6 _ _)
      | (refine gate_dst (N := 30) rfl ?_; refine Kd.R_append (Kd.int .i64) (w0 := wq) wq.heap.size ?_ (.tmp 27) (.tmp 29) 29 3 (.int .i64 0) 8 ?_ Try.underlying29 PileInt.info3 rfl (by decide) (by decide) _ ([] ++ vs) v [.int .i64 v] (fun k => wq.heap.size ≤ k) (fun _ => False) rfl rfl rfl (fun k hk => hk.elim) ?_ hR6 hB6 hB6.size ?_ ?_; rfl; rfl; exact (fun k hk => Nat.le_trans hB6.size hk); (have := HLE.out; have := HCAP.out; simp; omega); intro v7 w7 hR7 hB7 _ _; obtain ⟨A7, c7, rfl, hc7, _⟩ := Kd.R_reads hR7; have hbk := HB2.out.below hB7; have f1 := hbk.cell (j := 1) rfl; have f2 := hbk.free 1; have HB7 := Lib.hid hB7; have HK7 := Lib.hid hbk; clear hB7 hbk))
    go_ret
    have hset := HK7.out.set 1 (.slice A7 (vs.length + 1) c7)
    have hMs : M < w.heap.size := Nat.lt_of_lt_of_le HM.out HLO.out
    have hCh : Chg (fun k => k = M) w (w7.setCell ⟨M, 1, none⟩ (.slice A7 (vs.length + 1) c7)) := by
      refine chg_set1 ?_ _ _
      exact (HCQ.out.mono (S' := fun k => k = M) (fun _ _ h => h.elim)).trans (Chg.of_below (S := fun k => k = M) HB7.out) (fun _ _ h => h)
    have hS7 : Seg w7 lo A7 (vs ++ [v]) := seg_low (seg_of_own hR7) (by have := HSQ.out; have := HLO.out; omega)
    have e : (!false && decide (vs.length < cap)) = true := by simpa using HLT.out
    unfold Offered
    rw [e]
    refine ⟨rfl, ⟨A7, c7, by simpa using hc7, ?_, ?_⟩, hCh⟩
    · simpa using hset
    · rw [if_pos rfl]
      refine hS7.chg (chg_set1 (Chg.refl _ _) _ _) ?_
      intro k hk e
      have := HM.out; omega

/-- What the document's Take leaves. -/
def Taken (lo M cap : Nat) (vs : List Int) (cl : Bool) (w : World) (e : Ending) (w' : World) : Prop :=
  e = .returned (.tuple #[.int .i64 (vs.headD 0), .bool (!vs.isEmpty)]) ∧ IsRef w' lo M cap vs.tail cl ∧ Chg (fun k => k = M) w w'

set_option maxRecDepth 100000 in
set_option maxHeartbeats 400000 in
theorem take_ref_none (lo M cap : Nat) (cl : Bool) (w : World) (h : IsRef w lo M cap [] cl) :
    Calls Try.prog 66 #[.pointer (some ⟨M, 0, none⟩)] w fun e w' => e = .returned (.tuple #[.int .i64 0, .bool false]) ∧ w = w' := by
  obtain ⟨A, c, hc, hb, hs⟩ := h
  have c1 := hb.cell (j := 1) rfl
  clear hb hs hc
  go_enter Try.func66, Try.ntmps66
  go_wp2
  go_ret2
  exact ⟨rfl, rfl⟩

set_option maxRecDepth 100000 in
set_option maxHeartbeats 1000000 in
theorem take_ref_some (lo M cap : Nat) (x : Int) (xs : List Int) (cl : Bool) (w : World) (h : IsRef w lo M cap (x :: xs) cl) (hM : M < lo) :
    Calls Try.prog 66 #[.pointer (some ⟨M, 0, none⟩)] w fun e w' => e = .returned (.tuple #[.int .i64 x, .bool true]) ∧ IsRef w' lo M cap xs cl ∧ Chg (fun k => k = M) w w' := by
  obtain ⟨A, c, hc, hb, hs⟩ := h
  obtain ⟨g, o, rfl, hg, hcell⟩ := hs.2 (by simp)
  have k0 := hcell 0 x rfl
  rw [Nat.add_zero] at k0
  have c1 := hb.cell (j := 1) rfl
  have f1 := hb.free 1
  have HB := Lib.hid hb
  have HS := Lib.hid hs
  have hmax := hs.1
  have hlen : (x :: xs).length = xs.length + 1 := rfl
  rw [hlen] at hc hmax
  have c1' : w.cell? ⟨M, 1, none⟩ = some (.slice (some ⟨g, o, none⟩) (xs.length + 1) c) := c1
  have HM := Lib.hid hM
  clear hb hs hcell c1 hlen hM
  by_cases h1 : c = 1
  · subst h1
    have hx : xs = [] := by cases xs <;> simp_all
    subst hx
    go_enter Try.func66, Try.ntmps66
    go_wp2
    go_ret2
    refine ⟨rfl, ⟨_, _, Nat.le_refl _, by simpa using HB.out.set 1 _, Seg.nil _ _ _⟩, chg_set1 (Chg.refl _ _) _ _⟩
  · go_enter Try.func66, Try.ntmps66
    go_wp2
    go_ret2
    refine ⟨rfl, ⟨some ⟨g, o + 1, none⟩, c - 1, by omega, by simpa using HB.out.set 1 _, ?_⟩, chg_set1 (Chg.refl _ _) _ _⟩
    refine (Seg.tail HS.out).chg (chg_set1 (Chg.refl _ _) _ _) ?_
    intro k hk e
    have := HM.out; omega

theorem take_ref (lo M cap : Nat) (vs : List Int) (cl : Bool) (w : World) (h : IsRef w lo M cap vs cl) (hM : M < lo) : Calls Try.prog 66 #[.pointer (some ⟨M, 0, none⟩)] w (Taken lo M cap vs cl w) := by
  cases vs with
  | nil =>
    refine (take_ref_none lo M cap cl w h).mono ?_
    rintro e w' ⟨rfl, rfl⟩
    exact ⟨rfl, h, Chg.refl _ _⟩
  | cons x xs => exact take_ref_some lo M cap x xs cl w h hM

set_option maxRecDepth 100000 in
set_option maxHeartbeats 400000 in
theorem rest (a : Int) (n : Nat) (w : World) (h0 : 0 < n) (h1 : n ≤ 100) :
    Calls Try.prog 51 #[.int .i64 a, .int .i64 n] w fun e w' => e = .returned (.int .i64 ((a % n).toNat : Nat)) ∧ w = w' := by
  have b1 := Int.tmod_lt_of_pos a (show (0 : Int) < n by omega)
  have b2 := Int.lt_tmod_of_pos a (show (0 : Int) < n by omega)
  have HE : Hid ((a.tmod n + n) % n = ((a % n).toNat : Nat)) := Lib.hid (by
    have h2 := Int.emod_nonneg a (show (n : Int) ≠ 0 by omega)
    have h3 : (a.tmod n + n) % n = a % n := by
      rw [Int.add_emod_right]
      have h4 := Int.mul_tdiv_add_tmod a n
      have h5 : a.tmod n = a + n * (-(a.tdiv n)) := by rw [Int.mul_neg]; omega
      rw [h5, Int.add_mul_emod_self_left]
    rw [h3]; omega)
  have hz : ((n : Int) == 0) = false := by simp; omega
  generalize hr : a.tmod n = r at *
  go_enter Try.func51, Try.ntmps51
  go_wp2
  go_ret
  exact ⟨by rw [← HE.out]; rfl, rfl⟩

theorem IsRef.turn2 {w w' : World} {lo M cap M' : Nat} {vs : List Int} {cl : Bool} (h : IsRef w lo M cap vs cl) (hc : Chg (fun k => k = M') w w') (hne : M ≠ M') (hM : M' < lo) : IsRef w' lo M cap vs cl :=
  h.keep hc hne (by intro k hk; omega)

set_option maxRecDepth 100000 in
set_option maxHeartbeats 2000000 in
theorem pour_ref (lo M cap : Nat) (vs : List Int) (cl : Bool) (M' cap' : Nat) (us : List Int) (cl' : Bool) (w : World) (h : IsRef w lo M cap vs cl) (h' : IsRef w lo M' cap' us cl') (hne : M ≠ M') (hM : M < lo) (hM' : M' < lo) (hlo : lo ≤ w.heap.size)
    (hle' : us.length ≤ cap') (hcap' : cap' ≤ 1000) :
    Calls Try.prog 69 #[.pointer (some ⟨M, 0, none⟩), .pointer (some ⟨M', 0, none⟩)] w fun e w' => e = .returned (.int .i64 (pours vs us cap' cl' : Nat)) ∧ IsRef w' lo M cap (vs.drop (pours vs us cap' cl')) cl ∧ IsRef w' lo M' cap' (us ++ vs.take (pours vs us cap' cl')) cl' ∧ Chg (fun k => k = M ∨ k = M') w w' := by
  obtain ⟨p, hp⟩ : ∃ p, pours vs us cap' cl' = p := ⟨_, rfl⟩
  have hp1 : p ≤ vs.length ∧ us.length + p ≤ cap' ∧ (0 < p → cl' = false) ∧ (cl' = true ∨ p = vs.length ∨ us.length + p = cap') := by
    rw [← hp]; unfold pours
    cases cl'
    · simp; omega
    · simp; omega
  rw [hp]
  have HA := Lib.hid h; have HB := Lib.hid h'
  have HM := Lib.hid hM; have HM' := Lib.hid hM'; have HNE := Lib.hid hne; have HLO := Lib.hid hlo
  have HP := Lib.hid hp1
  obtain ⟨hp2, hp3, _, _⟩ := hp1
  clear h h' hp hne hM hM' hlo
  go_enter Try.func69, Try.ntmps69
  go_wp2_with fail
  go_loopg [5] p (fun g s5 wr => ∃ i : Nat, i ≤ p ∧ g = p - i ∧ s5 = .int .i64 i ∧ IsRef wr lo M cap (vs.drop i) cl ∧ IsRef wr lo M' cap' (us ++ vs.take i) cl' ∧ Chg (fun k => k = M ∨ k = M') w wr)
  case atStart => exact ⟨0, by omega, by omega, rfl, HA.out, by simpa using HB.out, Chg.refl _ _⟩
  case round =>
    clear HA HB
    obtain ⟨i, hi, rfl, rfl, ha, hb, hc⟩ := hrel
    have HA := Lib.hid ha; have HB := Lib.hid hb; have HC := Lib.hid hc
    have hlen : (vs.drop i).length = vs.length - i ∧ (us ++ vs.take i).length = us.length + i := by simp; omega
    obtain ⟨A, c, hac, hab, hseg⟩ := ha
    obtain ⟨A', c', hac', hab', hseg'⟩ := hb
    have a1 := hab.cell (j := 1) rfl
    have b0 := hab'.cell (j := 0) rfl
    have b1 := hab'.cell (j := 1) rfl
    have b2 := hab'.cell (j := 2) rfl
    rw [hlen.1] at a1
    rw [hlen.2] at b1
    have HL := Lib.hid hlen
    clear hc hab hab' hseg hseg' hac hac' hlen
    by_cases hlt : i < p
    · have hcl : cl' = false := HP.out.2.2.1 (by omega)
      subst hcl
      have t1 : decide (0 < vs.length - i) = true := by simp; omega
      have t2 : decide (us.length + i < cap') = true := by simp; omega
      obtain ⟨x, hdr, htk⟩ := part_at (vs := vs) (i := i) (by omega)
      have HDR := Lib.hid hdr; have HTK := Lib.hid htk
      clear hdr htk
      go_wp2_with fail
      go_quiet (fail)
      obtain ⟨w2, hw2⟩ : ∃ w2, w2 = wr.drewN nq := ⟨_, rfl⟩
      have HCQ : Hid (Chg (fun _ => False) wr w2) := Lib.hid (by subst hw2; exact (Chg.refl _ _).drewN _)
      rw [← hw2]
      clear hw2 a1 b0 b1 b2
      have hA2 := HA.out.keep HCQ.out (by simp) (by simp)
      rw [HDR.out] at hA2
      have HA2 := Lib.hid hA2
      have HB2 : Hid (IsRef w2 lo M' cap' (us ++ vs.take i) false) := Lib.hid (HB.out.keep HCQ.out (by simp) (by simp))
      have HC2 : Hid (Chg (fun k => k = M ∨ k = M') w w2) := Lib.hid (HC.out.trans HCQ.out (fun _ _ h => h.elim))
      clear hA2 HA HB HC HCQ HDR
      go_wp2_with fail
      refine (take_ref_some lo M cap x _ cl _ HA2.out HM.out).mono ?_
      rintro e w3 ⟨rfl, ha, hc⟩
      have HA3 := Lib.hid ha
      have HB3 : Hid (IsRef w3 lo M' cap' (us ++ vs.take i) false) := Lib.hid (HB2.out.turn2 hc HNE.out.symm HM.out)
      have HC3 : Hid (Chg (fun k => k = M ∨ k = M') w w3) := Lib.hid (HC2.out.trans hc (fun _ _ h => Or.inl h))
      clear ha hc HA2 HB2 HC2
      have hlo3 : lo ≤ w3.heap.size := Nat.le_trans HLO.out HC3.out.size
      go_wp2_with fail
      refine (offer_ref lo M' cap' (us ++ vs.take i) false x _ HB3.out HM'.out hlo3 (by rw [HL.out.2]; omega) hcap').mono ?_
      rintro e w4 ⟨rfl, hb, hc⟩
      have e1 : (!false && decide ((us ++ vs.take i).length < cap')) = true := by rw [HL.out.2]; simp; omega
      rw [e1, if_pos rfl, List.append_assoc, ← HTK.out] at hb
      have HB4 := Lib.hid hb
      have HA4 : Hid (IsRef w4 lo M cap (vs.drop (i + 1)) cl) := Lib.hid (HA3.out.turn2 hc HNE.out HM'.out)
      have HC4 : Hid (Chg (fun k => k = M ∨ k = M') w w4) := Lib.hid (HC3.out.trans hc (fun _ _ h => Or.inr h))
      clear hb hc e1 HA3 HB3 HC3 hlo3
      go_wp2_with fail
      go_roundg (p - (i + 1))
      case measure => omega
      case rel => exact ⟨i + 1, by omega, rfl, by go_num, HA4.out, HB4.out, HC4.out⟩
    · have e : i = p := by omega
      subst e
      have hor := HP.out.2.2.2
      by_cases g1 : vs.length = i
      · have t1 : decide (0 < vs.length - i) = false := by simp; omega
        clear hor
        go_wp2_with fail
        go_quiet (fail)
        go_wp2_with fail
        go_ret
        exact ⟨rfl, HA.out.keep ((Chg.refl (fun _ => False) _).drewN _) (by simp) (by simp), HB.out.keep ((Chg.refl (fun _ => False) _).drewN _) (by simp) (by simp), HC.out.drewN _⟩
      · have t1 : decide (0 < vs.length - i) = true := by simp; omega
        cases hcl : cl'
        · subst hcl
          have t2 : ((cap' : Nat) : Int) ≤ (us.length : Int) + (i : Int) := by simp at hor; omega
          clear hor
          go_wp2_with fail
          go_quiet (fail)
          go_wp2_with fail
          go_ret
          exact ⟨rfl, HA.out.keep ((Chg.refl (fun _ => False) _).drewN _) (by simp) (by simp), HB.out.keep ((Chg.refl (fun _ => False) _).drewN _) (by simp) (by simp), HC.out.drewN _⟩
        · subst hcl
          clear hor
          go_wp2_with fail
          go_quiet (fail)
          go_wp2_with fail
          refine bodyPost_ret (v := .int .i64 i) (by simp [results, Try.results69, go_sem]) rfl ⟨rfl, HA.out.keep ((Chg.refl (fun _ => False) _).drewN _) (by simp) (by simp), HB.out.keep ((Chg.refl (fun _ => False) _).drewN _) (by simp) (by simp), HC.out.drewN _⟩
end Go.Proofs.Ytfkbijkmdnieiaa.BoxRef
