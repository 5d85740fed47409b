/- No handle and no number twice: the law, walked to its end. -/
import Derived.Test.YtccfjjaljckinaaTagT
namespace Go.Proofs.Ytccfjjaljckinaa.Tag
open Go.RowKit Go.Lib Go.Shelf Go.Proofs.Ytccfjjaljckinaa.Mem Go.Proofs.Ytccfjjaljckinaa.IMap Go.Proofs.YtccfjjaljckinaaW.PrintWords

theorem serialAt {w : World} {O : Nat → Prop} {B : Nat} {t : Tab} (h : TabAt w O B t) : Calls Try.prog 15 #[.pointer (some ⟨B, 0, none⟩)] w fun e w' => e = .returned (.int .i64 t.serial) ∧ w' = w := by
  obtain ⟨M, v, h, _⟩ := h
  exact serialOf h

def OnceRel (w : World) (B n : Nat) (v i : Value) (wr : World) : Prop := ∃ (k : Nat) (told : List Listed) (t : Tab) (O : Nat → Prop), k ≤ n ∧ i = .int .i64 k ∧ TRow wr v told ∧ TabAt wr O B t ∧ (∀ j, O j → w.heap.size ≤ j ∧ j < wr.heap.size ∧ v.ownBlock ≠ some j) ∧
  (∀ j, v.ownBlock = some j → w.heap.size ≤ j) ∧ Below w.heap.size w wr ∧ Told told t ∧ t.slots.length ≤ k ∧ told.length ≤ k
theorem rest_four (a : Int) : restI a 4 = 0 ∨ restI a 4 = 1 ∨ restI a 4 = 2 ∨ restI a 4 = 3 := by
  have := rest_in a 4 (by decide) (by decide)
  omega
theorem drewN_below {w : World} (n : Nat) : Below w.heap.size w (w.drewN n) := bdn (Below.refl _ _) n

set_option maxRecDepth 100000 in
set_option maxHeartbeats 40000000 in
theorem once_short (A : Option Addr) (cap : Nat) (acts : List Act) (w : World) (hc : Acts w A acts) (hf : FitsA acts) (hl : acts.length ≤ 50) :
    Calls Try.prog 3 #[.slice A acts.length cap] w fun e w' => e = .returned (.bool true) ∧ Below w.heap.size w w' := by
  have HAc := Lib.hid hc
  have HFi := Lib.hid hf
  have hu36 := Try.underlying36
  have hu34 := Try.underlying34
  have hu32 := Try.underlying32
  have hu30 := Try.underlying30
  have hu28 := Try.underlying28
  obtain ⟨i0, hi, hz0, hz1, hz2⟩ := info_parts info34
  clear hc hf
  go_enter Try.func3, Try.ntmps3
  go_wp2_with fail
  refine (awake _).mono ?_
  rintro e w1 ⟨rfl, hb1⟩
  have HB1 := Lib.hid hb1
  have z1 := hb1.size
  clear hb1
  go_wp2_with fail
  refine (newAt 6 w1).mono ?_
  rintro e w2 ⟨rfl, ht, hb⟩
  have HT2 := Lib.hid ht
  have HB2 : Hid (Below w.heap.size w w2) := Lib.hid (HB1.out.trans (hb.mono z1))
  clear ht hb HB1
  go_wp2_with fail
  generalize hn : acts.length = n at *
  have HN := Lib.hid hn
  clear hn
  go_loopw [4, 5] (fun v i wr => OnceRel w (w1.heap.size + 1) n v i wr) (fun _ i _ => n - (intOf i).toNat)
  case atStart =>
    exact ⟨0, [], newT 6, _, Nat.zero_le _, rfl, World.ownsRow_nil _ _ _ _, HT2.out, fun j hj => ⟨Nat.le_trans z1 hj.1, hj.2, by simp [Value.ownBlock]⟩, fun j hj => (by simp [Value.ownBlock] at hj), HB2.out, ⟨rfl, fun l hl => (by cases hl), fun l hl => (by cases hl)⟩, by simp [newT], Nat.le_refl _⟩
  case round =>
    clear HT2 HB2
    obtain ⟨k, told, t, O, hk, rfl, hrow, htab, hO, hV, hb, htold, hts, htl⟩ := hrel
    obtain ⟨A2, c2, rfl⟩ := hrow.len
    have HRow := Lib.hid hrow
    have HTab := Lib.hid htab
    have HO := Lib.hid hO
    have HV := Lib.hid hV
    have HB := Lib.hid hb
    have HTo := Lib.hid htold
    have hser : t.serial = told.length := htold.serial
    have HSer := Lib.hid hser
    clear hrow htab hO hV hb htold hser
    by_cases hlt : k < n
    · obtain ⟨a, ha⟩ : ∃ a, acts[k]? = some a := ⟨_, List.getElem?_eq_getElem (by rw [HN.out]; exact hlt)⟩
      obtain ⟨ad, rfl, h0, hcc, hadl⟩ := (HAc.out.below HB.out) k a ha
      have hfit := HFi.out a (List.mem_of_getElem? ha)
      obtain ⟨kind, place, tld, ⟨⟨xi, xg⟩, ⟨xt, xn, xk, xd⟩⟩⟩ := a
      have HFit := Lib.hid hfit
      have m0 : wr.cell? (ad.add (k * 9)) = some (.int .i64 kind) := h0
      have m1 := hcc 1 _ rfl
      have m2 := hcc 2 _ rfl
      have m3 := hcc 3 _ rfl
      have m4 := hcc 4 _ rfl
      have m5 := hcc 5 _ rfl
      have m6 := hcc 6 _ rfl
      have m7 := hcc 7 _ rfl
      have m8 := hcc 8 _ rfl
      clear h0 hcc hfit ha
      have hrf := rest_four kind
      simp only [] at m1 m2 m3 m4 m5 m6 m7 m8
      cases tld with
      | false =>
        go_wp2_with fail
        refine gw (fun wb hwb => ?_)
        have HBa : Hid (Below wr.heap.size wr wb) := Lib.hid (by rw [← hwb]; exact ((Below.refl _ _).alloc (Nat.le_refl _) _).alloc (by simp) _)
        have HA9 : Hid (Blk wb wr.heap.size #[.int .i64 kind, .int .i64 place, .bool false, .int .i64 xi, .int .i64 xg, .int .i64 xt, .bool xn, .int .i64 xk, .int .i64 xd] 36) := Lib.hid (by rw [← hwb]; exact (Blk.new _ _ _).alloc _)
        have HX6 : Hid (Blk wb (wr.heap.size + 1) #[.int .i64 xi, .int .i64 xg, .int .i64 xt, .bool xn, .int .i64 xk, .int .i64 xd] 34) := Lib.hid (by rw [← hwb]; exact Blk.at_ (by simp) _ _)
        clear hwb m0 m1 m2 m3 m4 m5 m6 m7 m8 hadl
        have HBb := HBa
        have HA9b := HA9
        have HLb := HX6
        have HLf : Hid (In64 xi ∧ In64 xg ∧ In64O ⟨xt, xn, xk, xd⟩) := Lib.hid ⟨HFit.out.2.2.1, HFit.out.2.2.2.1, HFit.out.2.2.2.2⟩
        clear HBa HA9 HX6
        refine (rest kind 4 (by decide) _).mono ?_
        rintro e wc0 ⟨rfl, q4, rfl⟩
        have HBc : Hid (Below wr.heap.size wr (wb.drewN q4)) := Lib.hid (bdn HBb.out q4)
        have HA9c : Hid (Blk (wb.drewN q4) wr.heap.size #[.int .i64 kind, .int .i64 place, .bool false, .int .i64 xi, .int .i64 xg, .int .i64 xt, .bool xn, .int .i64 xk, .int .i64 xd] 36) := Lib.hid (HA9b.out.drewN q4)
        have HLc : Hid (Blk (wb.drewN q4) (wr.heap.size + 1) #[.int .i64 xi, .int .i64 xg, .int .i64 xt, .bool xn, .int .i64 xk, .int .i64 xd] 34) := Lib.hid (HLb.out.drewN q4)
        generalize wb.drewN q4 = wc at *
        clear HBb HA9b HLb
        have zc := HLc.out.lt
        have HTc := Lib.hid (HTab.out.below HBc.out)
        have HRc := Lib.hid (HRow.out.below HBc.out)
        have HBwc : Hid (Below w.heap.size w wc) := Lib.hid (btrans HB.out HBc.out)
        clear HTab HRow HB HBc
        rcases hrf with hrf | hrf | hrf | hrf
        all_goals rw [hrf] at *
        all_goals clear hrf
        · have g0 := HA9c.out.cell (j := 0) rfl
          have g1 := HA9c.out.cell (j := 1) rfl
          have g2 := HA9c.out.cell (j := 2) rfl
          have g3 := HA9c.out.cell (j := 3) rfl
          have g4 := HA9c.out.cell (j := 4) rfl
          have g5 := HA9c.out.cell (j := 5) rfl
          have g6 := HA9c.out.cell (j := 6) rfl
          have g7 := HA9c.out.cell (j := 7) rfl
          have g8 := HA9c.out.cell (j := 8) rfl
          have y0 := HLc.out.cell (j := 0) rfl
          have y1 := HLc.out.cell (j := 1) rfl
          have y2 := HLc.out.cell (j := 2) rfl
          have y3 := HLc.out.cell (j := 3) rfl
          have y4 := HLc.out.cell (j := 4) rfl
          have y5 := HLc.out.cell (j := 5) rfl
          have HRl : Hid (∀ j, (Value.slice A2 told.length c2).ownBlock = some j → j < wc.heap.size) := Lib.hid (fun j hj => (HRc.out.lt j hj).2)
          have hwle : w.heap.size ≤ wc.heap.size := HBwc.out.size
          go_wp2_with fail
          refine (issueAt HTc.out (x := xt) (key := xk) (ins := xn) HFit.out.2.2.2.2.1 HFit.out.2.2.2.2.2.1 (by omega) (by have := HSer.out; omega)).mono ?_
          rintro e w4 ⟨he, ht4, hc4⟩
          have HGood := Lib.hid HTc.out.good
          have z4 := hc4.size
          have HR4 : Hid (TRow w4 (.slice A2 told.length c2) told) := Lib.hid (HRc.out.keep hc4 (fun j hj ho => (HO.out j ho).2.2 hj))
          have HB4 : Hid (Below w.heap.size w w4) := Lib.hid (HBwc.out.trans (hc4.below (fun j hj _ ho => by have := (HO.out j ho).1; omega) HBwc.out.size))
          clear g0 g1 g2 g3 g4 g5 g6 g7 g8 y0 y1 y2 y3 y4 y5
          by_cases hm : mayE t xt = 0
          · rw [show issueR t xt xn xk = (⟨⟨freeI t, lastI t + 1⟩, issueOp t xt xn xk⟩, 0, issueT t xt xn xk) from if_pos hm] at he ht4
            have HT4 := Lib.hid ht4
            have HTo4 := Lib.hid (HTo.out.issued HGood.out (x := xt) (ins := xn) (key := xk) HFit.out.2.2.2.2.1 HFit.out.2.2.2.2.2.1 (by omega) (by have := HSer.out; omega))
            have HNew := Lib.hid (HTo.out.new xt xn xk)
            have hgl := (issue_grows (t := t) (x := xt) (ins := xn) (key := xk)).2
            change e = .returned (.tuple #[.agg #[.int .i64 (freeI t), .int .i64 (lastI t + 1), .int .i64 xt, .bool xn, .int .i64 (if xn then xk else 0), .int .i64 t.serial], .int .i64 0]) at he
            have HNe : Hid (∀ l ∈ told, (l.r.i = (freeI t : Int) → l.r.g ≠ lastI t + 1) ∧ l.o.id ≠ t.serial) := HNew
            have HTT : Hid (Told (told ++ [⟨⟨(freeI t : Int), lastI t + 1⟩, ⟨xt, xn, if xn then xk else 0, t.serial⟩⟩]) (issueT t xt xn xk)) := HTo4
            generalize hfi : (freeI t : Int) = fi at *
            generalize hgi : lastI t + 1 = gi at *
            generalize hki : (if xn then xk else 0) = ki at *
            generalize hsd : t.serial = sd at *
            subst he
            clear ht4 hc4 HTc HRc HBwc HNew HTo4 hm hfi hgi hki
            go_wp2_with fail
            refine gwP (fun wd hwd => ?_)
            have HBd : Hid (Below w4.heap.size w4 wd) := Lib.hid (by rw [← hwd]; exact (Below.refl _ _).alloc (Nat.le_refl _) _)
            have HY : Hid (Blk wd w4.heap.size #[.int .i64 fi, .int .i64 gi, .int .i64 xt, .bool xn, .int .i64 ki, .int .i64 sd] 34) := Lib.hid (by rw [← hwd]; exact Blk.new _ _ _)
            have zd := HY.out.lt
            clear hwd
            go_loopw [10] (fun i2 w2r => ∃ m q : Nat, m ≤ told.length ∧ i2 = .int .i64 m ∧ w2r = wd.drewN q) (fun i2 _ => told.length - (intOf i2).toNat)
            case atStart => exact ⟨0, 0, Nat.zero_le _, rfl, rfl⟩
            case round =>
              obtain ⟨m, q, hm, rfl, rfl⟩ := hrel
              have v0 := HY.out.cell (j := 0) rfl
              have v1 := HY.out.cell (j := 1) rfl
              have v2 := HY.out.cell (j := 2) rfl
              have v3 := HY.out.cell (j := 3) rfl
              have v4 := HY.out.cell (j := 4) rfl
              have v5 := HY.out.cell (j := 5) rfl
              by_cases hml : m < told.length
              · obtain ⟨l2, hl2⟩ : ∃ l2, told[m]? = some l2 := ⟨_, List.getElem?_eq_getElem hml⟩
                obtain ⟨R2, cp2, hvv, hRl, hcl⟩ := (HR4.out.below HBd.out).cells hl2
                obtain ⟨ne1, ne2⟩ := HNe.out l2 (List.mem_of_getElem? hl2)
                obtain ⟨⟨ti, tg⟩, ⟨tt, tn, tk, td⟩⟩ := l2
                injection hvv with hv1 hv2 hv3
                subst hv1
                subst hv3
                have u0 := hcl 0 _ rfl
                have u1 := hcl 1 _ rfl
                have u5 := hcl 5 _ rfl
                simp only [Nat.add_zero] at u0
                have n1 : (td == sd) = false := beq_eq_false_iff_ne.2 ne2
                have hm0 : (0 : Int) ≤ m := by omega
                have hmN : (m : Int) < told.length := by omega
                have em : (m : Int).toNat = m := by omega
                have tm2 : decide (told.length ≤ m) = false := decide_eq_false (by omega)
                clear hcl hl2 hv2
                by_cases hti : ti = fi
                · have n2 : (tg == gi) = false := beq_eq_false_iff_ne.2 (ne1 hti)
                  have n3 : (ti == fi) = true := beq_iff_eq.2 hti
                  clear ne1 ne2 hti
                  go_wp2_with fail
                  go_quiet (fail)
                  go_wp2_with fail
                  go_roundw
                  case rel => exact ⟨m + 1, _, by omega, by go_num, rfl⟩
                  case measure => simp [intOf]; omega
                · have n3 : (ti == fi) = false := beq_eq_false_iff_ne.2 hti
                  clear ne1 ne2 hti
                  go_wp2_with fail
                  go_quiet (fail)
                  go_wp2_with fail
                  go_roundw
                  case rel => exact ⟨m + 1, _, by omega, by go_num, rfl⟩
                  case measure => simp [intOf]; omega
              · have HRd := Lib.hid (HR4.out.below (bdn HBd.out q))
                have HBwd : Hid (Below w.heap.size w (wd.drewN q)) := Lib.hid (btrans HB4.out (bdn HBd.out q))
                have HTd := Lib.hid (HT4.out.below (bdn HBd.out q))
                have zq : (wd.drewN q).heap.size = wd.heap.size := rfl
                have Hc1 : Hid (∀ j u, (encL ⟨⟨fi, gi⟩, ⟨xt, xn, ki, sd⟩⟩)[j]? = some u → ((wd.alloc (Obj.cells #[.int .i64 fi, .int .i64 gi, .int .i64 xt, .bool xn, .int .i64 ki, .int .i64 sd] 34)).drewN q).cell? ((⟨wd.heap.size, 0, none⟩ : Addr).add j) = some u) := Lib.hid (fun j u hu => by
                  have hb := Blk.new wd #[.int .i64 fi, .int .i64 gi, .int .i64 xt, .bool xn, .int .i64 ki, .int .i64 sd] 34
                  have := hb.cell (j := j) (v := u) (by simpa [encL] using hu)
                  rw [show ((⟨wd.heap.size, 0, none⟩ : Addr).add j) = ⟨wd.heap.size, j, none⟩ by simp [Addr.add]; intro h; omega]
                  exact this)
                have Hc2 : Hid (∀ u ∈ encL ⟨⟨fi, gi⟩, ⟨xt, xn, ki, sd⟩⟩, u.oneCell' = true) := Lib.hid (by simp [encL, Value.oneCell'])
                have Hc3 : Hid (told.length + 1 ≤ maxLen) := Lib.hid (by unfold maxLen; omega)
                have Hc4 : Hid ((told.length + 1) * 48 ≤ 140737488355328) := Lib.hid (by omega)
                go_wp2_with (first
                  | (at_builtin
                     refine wpList_append_own_at _ rfl _ _ 26 rfl 0 34 i0 _ 6 48 Try.underlying26 hi hz0 hz1 hz2 rfl (by decide) (.slice A2 told.length c2) told.length (cellsL told) rfl (HRd.out.alloc _) ⟨wd.heap.size, 0, none⟩ 1 1 (encL ⟨⟨fi, gi⟩, ⟨xt, xn, ki, sd⟩⟩) rfl rfl Hc1.out Hc2.out Hc3.out Hc4.out (Nat.zero_le _) ?_
                     intro v' w6 hown hgrow hnil hloc
                     have HOwn := Lib.hid hown
                     have HLoc := Lib.hid hloc
                     have HG6 : Hid (Chg (fun j => (Value.slice A2 told.length c2).ownBlock = some j) (wd.drewN q) w6) := Lib.hid (by
                       have h : Chg (fun j => (Value.slice A2 told.length c2).ownBlock = some j) wd w6 := ((Chg.alloc (Chg.refl _ wd) _).trans ⟨hgrow.os, hgrow.tape, hgrow.output, hgrow.size, fun j hj hne => hgrow.block j hj (fun e => hne e.symm)⟩ (fun _ _ h => h))
                       exact ⟨h.os, h.tape, h.output, h.size, h.block⟩)
                     clear hown hgrow hnil hloc))
                have z6 := HG6.out.size
                have hlo6 : ∀ j, v'.ownBlock = some j → (Value.slice A2 told.length c2).ownBlock = some j ∨ wd.heap.size ≤ j := fun j hj => by
                  rcases HLoc.out with e | e
                  · exact Or.inl (by rw [← e]; exact hj)
                  · rw [e] at hj
                    injection hj with hj
                    right
                    simp at hj
                    omega
                have HL6 := Lib.hid hlo6
                clear hlo6
                go_roundw
                case rel =>
                  refine ⟨k + 1, told ++ [⟨⟨fi, gi⟩, ⟨xt, xn, ki, sd⟩⟩], _, _, by omega, by go_num, ?_, (HTd.out.keep (w' := w6) (S := fun j => (Value.slice A2 told.length c2).ownBlock = some j) HG6.out ?_), ?_, ?_, ?_, HTT.out, by omega, by simp; omega⟩
                  · show World.ownsRow w6 0 34 6 v' (told ++ [_]).length (cellsL (told ++ [_]))
                    have := HOwn.out
                    unfold cellsL at this ⊢
                    rw [List.length_append, List.flatMap_append]
                    simpa using this
                  · intro j hj e
                    rcases hj with hj | hj
                    · exact (HO.out j hj).2.2 e
                    · have := HRl.out j e; omega
                  · intro j hj
                    refine ⟨?_, ?_, fun e => ?_⟩
                    · rcases hj with hj | hj
                      · exact (HO.out j hj).1
                      · omega
                    · rcases hj with hj | hj
                      · have := (HO.out j hj).2.1; omega
                      · omega
                    · rcases HL6.out j e with e | e
                      · rcases hj with hj | hj
                        · exact (HO.out j hj).2.2 e
                        · have := HRl.out j e; omega
                      · rcases hj with hj | hj
                        · have := (HO.out j hj).2.1; omega
                        · omega
                  · intro j e
                    rcases HL6.out j e with e | e
                    · exact HV.out j e
                    · omega
                  · exact HBwd.out.trans (HG6.out.below (fun j hj _ e => by have := HV.out j e; omega) HBwd.out.size)
                case measure => simp [intOf]; omega
          · rw [show issueR t xt xn xk = (listed0, mayE t xt, t) from if_neg hm] at he ht4
            have HT4 := Lib.hid ht4
            change e = .returned (.tuple #[.agg #[.int .i64 0, .int .i64 0, .int .i64 0, .bool false, .int .i64 0, .int .i64 0], .int .i64 (mayE t xt)]) at he
            generalize mayE t xt = E at *
            have t1 : (E == 0) = false := beq_eq_false_iff_ne.2 hm
            have t2 : (E != 0) = true := by rw [bne, t1]; rfl
            have HTo4 := HTo
            subst he
            clear ht4 hc4 HTc HRc HBwc hm
            go_wp2_with fail
            go_roundw
            case rel =>
              refine ⟨k + 1, told, t, More O wc w4, by omega, by go_num, HR4.out.alloc _, HT4.out.below ((Below.refl _ _).alloc (Nat.le_refl _) _), ?_, HV.out, HB4.out.alloc HB4.out.size _, HTo4.out, by omega, by omega⟩
              intro j hj
              refine And.imp_right (And.imp_left (fun h => Nat.lt_of_lt_of_le h ((Below.refl w4.heap.size w4).alloc (Nat.le_refl _) _).size)) (?_ : w.heap.size ≤ j ∧ j < w4.heap.size ∧ _)
              rcases hj with hj | hj
              · exact ⟨(HO.out j hj).1, by have := (HO.out j hj).2.1; omega, (HO.out j hj).2.2⟩
              · exact ⟨by omega, by omega, fun e => by have := HRl.out j e; omega⟩
            case measure => simp [intOf]; omega
        · have g0 := HA9c.out.cell (j := 0) rfl
          have g1 := HA9c.out.cell (j := 1) rfl
          have g2 := HA9c.out.cell (j := 2) rfl
          have g3 := HA9c.out.cell (j := 3) rfl
          have g4 := HA9c.out.cell (j := 4) rfl
          have g5 := HA9c.out.cell (j := 5) rfl
          have g6 := HA9c.out.cell (j := 6) rfl
          have g7 := HA9c.out.cell (j := 7) rfl
          have g8 := HA9c.out.cell (j := 8) rfl
          have y0 := HLc.out.cell (j := 0) rfl
          have y1 := HLc.out.cell (j := 1) rfl
          have y2 := HLc.out.cell (j := 2) rfl
          have y3 := HLc.out.cell (j := 3) rfl
          have y4 := HLc.out.cell (j := 4) rfl
          have y5 := HLc.out.cell (j := 5) rfl
          go_wp2_with fail
          refine (dropAt HTc.out ⟨xi, xg⟩).mono ?_
          rintro e w4 ⟨rfl, ht4, hc4⟩
          have HT4 := Lib.hid ht4
          have HR4 : Hid (TRow w4 (.slice A2 told.length c2) told) := Lib.hid (HRc.out.keep hc4 (fun j hj ho => (HO.out j ho).2.2 hj))
          have HB4 : Hid (Below w.heap.size w w4) := Lib.hid (HBwc.out.trans (hc4.below (fun j hj _ ho => by have := (HO.out j ho).1; omega) HBwc.out.size))
          have z4 := hc4.size
          clear ht4 hc4 HTc HRc HBwc
          obtain ⟨gr1, gr2, gr3⟩ := drop_grows t ⟨xi, xg⟩
          have HTo4 := Lib.hid (HTo.out.grow gr1 gr2)
          clear gr1 gr2 g0 g1 g2 g3 g4 g5 g6 g7 g8 y0 y1 y2 y3 y4 y5
          go_wp2_with fail
          go_roundw
          case rel => exact ⟨k + 1, told, _, _, by omega, by go_num, HR4.out, HT4.out, (fun j hj => ⟨(HO.out j hj).1, by have := (HO.out j hj).2.1; omega, (HO.out j hj).2.2⟩), HV.out, HB4.out, HTo4.out, by rw [gr3]; omega, by omega⟩
          case measure => simp [intOf]; omega
        · have g0 := HA9c.out.cell (j := 0) rfl
          have g1 := HA9c.out.cell (j := 1) rfl
          have g2 := HA9c.out.cell (j := 2) rfl
          have g3 := HA9c.out.cell (j := 3) rfl
          have g4 := HA9c.out.cell (j := 4) rfl
          have g5 := HA9c.out.cell (j := 5) rfl
          have g6 := HA9c.out.cell (j := 6) rfl
          have g7 := HA9c.out.cell (j := 7) rfl
          have g8 := HA9c.out.cell (j := 8) rfl
          have y0 := HLc.out.cell (j := 0) rfl
          have y1 := HLc.out.cell (j := 1) rfl
          have y2 := HLc.out.cell (j := 2) rfl
          have y3 := HLc.out.cell (j := 3) rfl
          have y4 := HLc.out.cell (j := 4) rfl
          have y5 := HLc.out.cell (j := 5) rfl
          go_wp2_with fail
          refine (reviveAt HTc.out ⟨⟨xi, xg⟩, ⟨xt, xn, xk, xd⟩⟩ HLf.out.2.2).mono ?_
          rintro e w4 ⟨rfl, ht4, hc4⟩
          have HT4 := Lib.hid ht4
          have HR4 : Hid (TRow w4 (.slice A2 told.length c2) told) := Lib.hid (HRc.out.keep hc4 (fun j hj ho => (HO.out j ho).2.2 hj))
          have HB4 : Hid (Below w.heap.size w w4) := Lib.hid (HBwc.out.trans (hc4.below (fun j hj _ ho => by have := (HO.out j ho).1; omega) HBwc.out.size))
          have z4 := hc4.size
          clear ht4 hc4 HTc HRc HBwc
          obtain ⟨gr1, gr2, gr3⟩ := revive_grows t ⟨⟨xi, xg⟩, ⟨xt, xn, xk, xd⟩⟩
          have HTo4 := Lib.hid (HTo.out.grow gr1 gr2)
          clear gr1 gr2 g0 g1 g2 g3 g4 g5 g6 g7 g8 y0 y1 y2 y3 y4 y5
          go_wp2_with fail
          go_roundw
          case rel => exact ⟨k + 1, told, _, _, by omega, by go_num, HR4.out, HT4.out, (fun j hj => ⟨(HO.out j hj).1, by have := (HO.out j hj).2.1; omega, (HO.out j hj).2.2⟩), HV.out, HB4.out, HTo4.out, by rw [gr3]; omega, by omega⟩
          case measure => simp [intOf]; omega
        · have g0 := HA9c.out.cell (j := 0) rfl
          have g1 := HA9c.out.cell (j := 1) rfl
          have g2 := HA9c.out.cell (j := 2) rfl
          have g3 := HA9c.out.cell (j := 3) rfl
          have g4 := HA9c.out.cell (j := 4) rfl
          have g5 := HA9c.out.cell (j := 5) rfl
          have g6 := HA9c.out.cell (j := 6) rfl
          have g7 := HA9c.out.cell (j := 7) rfl
          have g8 := HA9c.out.cell (j := 8) rfl
          have y0 := HLc.out.cell (j := 0) rfl
          have y1 := HLc.out.cell (j := 1) rfl
          have y2 := HLc.out.cell (j := 2) rfl
          have y3 := HLc.out.cell (j := 3) rfl
          have y4 := HLc.out.cell (j := 4) rfl
          have y5 := HLc.out.cell (j := 5) rfl
          go_wp2_with fail
          refine (moveAt HTc.out ⟨xi, xg⟩ (x := xt) HFit.out.2.2.2.2.1).mono ?_
          rintro e w4 ⟨rfl, ht4, hc4⟩
          have HT4 := Lib.hid ht4
          have HR4 : Hid (TRow w4 (.slice A2 told.length c2) told) := Lib.hid (HRc.out.keep hc4 (fun j hj ho => (HO.out j ho).2.2 hj))
          have HB4 : Hid (Below w.heap.size w w4) := Lib.hid (HBwc.out.trans (hc4.below (fun j hj _ ho => by have := (HO.out j ho).1; omega) HBwc.out.size))
          have z4 := hc4.size
          clear ht4 hc4 HTc HRc HBwc
          obtain ⟨gr1, gr2, gr3⟩ := move_grows t ⟨xi, xg⟩ xt
          have HTo4 := Lib.hid (HTo.out.grow gr1 gr2)
          clear gr1 gr2 g0 g1 g2 g3 g4 g5 g6 g7 g8 y0 y1 y2 y3 y4 y5
          go_wp2_with fail
          go_roundw
          case rel => exact ⟨k + 1, told, _, _, by omega, by go_num, HR4.out, HT4.out, (fun j hj => ⟨(HO.out j hj).1, by have := (HO.out j hj).2.1; omega, (HO.out j hj).2.2⟩), HV.out, HB4.out, HTo4.out, by rw [gr3]; omega, by omega⟩
          case measure => simp [intOf]; omega

      | true =>
        by_cases hpos : 0 < told.length
        · go_wp2_with fail
          refine gw (fun wa hwa => ?_)
          have HBa : Hid (Below wr.heap.size wr wa) := Lib.hid (by rw [← hwa]; exact ((Below.refl _ _).alloc (Nat.le_refl _) _).alloc (by simp) _)
          have HA9 : Hid (Blk wa wr.heap.size #[.int .i64 kind, .int .i64 place, .bool true, .int .i64 xi, .int .i64 xg, .int .i64 xt, .bool xn, .int .i64 xk, .int .i64 xd] 36) := Lib.hid (by rw [← hwa]; exact (Blk.new _ _ _).alloc _)
          have HX6 : Hid (Blk wa (wr.heap.size + 1) #[.int .i64 xi, .int .i64 xg, .int .i64 xt, .bool xn, .int .i64 xk, .int .i64 xd] 34) := Lib.hid (by rw [← hwa]; exact Blk.at_ (by simp) _ _)
          clear hwa m0 m1 m2 m3 m4 m5 m6 m7 m8 hadl
          refine (rest place (told.length : Int) (by omega) _).mono ?_
          rintro e w3 ⟨rfl, q3, rfl⟩
          have hri := rest_in place (told.length : Int) (by omega) (by omega)
          generalize restI place (told.length : Int) = ri at *
          obtain ⟨ix, rfl⟩ : ∃ ix : Nat, ri = ix := ⟨ri.toNat, by omega⟩
          have hix : ix < told.length := by omega
          obtain ⟨l, hl2⟩ : ∃ l, told[ix]? = some l := ⟨_, List.getElem?_eq_getElem hix⟩
          have HB3 : Hid (Below wr.heap.size wr (wa.drewN q3)) := Lib.hid (bdn HBa.out q3)
          have HA93 : Hid (Blk (wa.drewN q3) wr.heap.size #[.int .i64 kind, .int .i64 place, .bool true, .int .i64 xi, .int .i64 xg, .int .i64 xt, .bool xn, .int .i64 xk, .int .i64 xd] 36) := Lib.hid (HA9.out.drewN q3)
          have HX63 : Hid (Blk (wa.drewN q3) (wr.heap.size + 1) #[.int .i64 xi, .int .i64 xg, .int .i64 xt, .bool xn, .int .i64 xk, .int .i64 xd] 34) := Lib.hid (HX6.out.drewN q3)
          obtain ⟨R, cp, hvv, hRl, hcl⟩ := (HRow.out.below HB3.out).cells hl2
          have HLf0 := HTo.out.fits l (List.mem_of_getElem? hl2)
          obtain ⟨⟨li, lg⟩, ⟨lt, ln, lk, ld⟩⟩ := l
          have HLf : Hid (In64 li ∧ In64 lg ∧ In64O ⟨lt, ln, lk, ld⟩) := Lib.hid HLf0
          injection hvv with hv1 hv2 hv3
          subst hv1
          subst hv3
          have r0 := hcl 0 _ rfl
          have r1 := hcl 1 _ rfl
          have r2 := hcl 2 _ rfl
          have r3 := hcl 3 _ rfl
          have r4 := hcl 4 _ rfl
          have r5 := hcl 5 _ rfl
          generalize wa.drewN q3 = w3 at *
          clear HBa HA9 HX6 hcl hv2 HLf0 hl2
          have hx3 := HX63.out.lt
          have hi30 : (0 : Int) ≤ ix := by omega
          have hi3N : (ix : Int) < told.length := by omega
          have e3 : (ix : Int).toNat = ix := by omega
          simp only [Nat.add_zero] at r0
          have g0 := HA93.out.cell (j := 0) rfl
          have g1 := HA93.out.cell (j := 1) rfl
          have y0 := HX63.out.cell (j := 0) rfl
          have y1 := HX63.out.cell (j := 1) rfl
          have y2 := HX63.out.cell (j := 2) rfl
          have y3 := HX63.out.cell (j := 3) rfl
          have y4 := HX63.out.cell (j := 4) rfl
          have y5 := HX63.out.cell (j := 5) rfl
          have yf0 := HX63.out.free 0
          have yf1 := HX63.out.free 1
          have yf2 := HX63.out.free 2
          have yf3 := HX63.out.free 3
          have yf4 := HX63.out.free 4
          have yf5 := HX63.out.free 5
          go_wp2_with fail
          refine gw (fun wb hwb => ?_)
          have HBb : Hid (Below wr.heap.size wr wb) := Lib.hid (by rw [← hwb]; exact (((((HB3.out.setCell (by simp) _).setCell (by simp) _).setCell (by simp) _).setCell (by simp) _).setCell (by simp) _).setCell (by simp) _)
          have HA9b : Hid (Blk wb wr.heap.size #[.int .i64 kind, .int .i64 place, .bool true, .int .i64 xi, .int .i64 xg, .int .i64 xt, .bool xn, .int .i64 xk, .int .i64 xd] 36) := Lib.hid (by rw [← hwb]; exact blk_far (blk_far (blk_far (blk_far (blk_far (blk_far HA93.out (by omega)) (by omega)) (by omega)) (by omega)) (by omega)) (by omega))
          have HLb : Hid (Blk wb (wr.heap.size + 1) #[.int .i64 li, .int .i64 lg, .int .i64 lt, .bool ln, .int .i64 lk, .int .i64 ld] 34) := Lib.hid (by rw [← hwb]; exact (((((HX63.out.set 0 _).set 1 _).set 2 _).set 3 _).set 4 _).set 5 _)
          clear hwb HB3 HA93 HX63 r0 r1 r2 r3 r4 r5 g0 g1 y0 y1 y2 y3 y4 y5 yf0 yf1 yf2 yf3 yf4 yf5 hi30 hi3N e3 hri
          refine (rest kind 4 (by decide) _).mono ?_
          rintro e wc0 ⟨rfl, q4, rfl⟩
          have HBc : Hid (Below wr.heap.size wr (wb.drewN q4)) := Lib.hid (bdn HBb.out q4)
          have HA9c : Hid (Blk (wb.drewN q4) wr.heap.size #[.int .i64 kind, .int .i64 place, .bool true, .int .i64 xi, .int .i64 xg, .int .i64 xt, .bool xn, .int .i64 xk, .int .i64 xd] 36) := Lib.hid (HA9b.out.drewN q4)
          have HLc : Hid (Blk (wb.drewN q4) (wr.heap.size + 1) #[.int .i64 li, .int .i64 lg, .int .i64 lt, .bool ln, .int .i64 lk, .int .i64 ld] 34) := Lib.hid (HLb.out.drewN q4)
          generalize wb.drewN q4 = wc at *
          clear HBb HA9b HLb
          have zc := HLc.out.lt
          have HTc := Lib.hid (HTab.out.below HBc.out)
          have HRc := Lib.hid (HRow.out.below HBc.out)
          have HBwc : Hid (Below w.heap.size w wc) := Lib.hid (btrans HB.out HBc.out)
          clear HTab HRow HB HBc
          rcases hrf with hrf | hrf | hrf | hrf
          all_goals rw [hrf] at *
          all_goals clear hrf
          · have g0 := HA9c.out.cell (j := 0) rfl
            have g1 := HA9c.out.cell (j := 1) rfl
            have g2 := HA9c.out.cell (j := 2) rfl
            have g3 := HA9c.out.cell (j := 3) rfl
            have g4 := HA9c.out.cell (j := 4) rfl
            have g5 := HA9c.out.cell (j := 5) rfl
            have g6 := HA9c.out.cell (j := 6) rfl
            have g7 := HA9c.out.cell (j := 7) rfl
            have g8 := HA9c.out.cell (j := 8) rfl
            have y0 := HLc.out.cell (j := 0) rfl
            have y1 := HLc.out.cell (j := 1) rfl
            have y2 := HLc.out.cell (j := 2) rfl
            have y3 := HLc.out.cell (j := 3) rfl
            have y4 := HLc.out.cell (j := 4) rfl
            have y5 := HLc.out.cell (j := 5) rfl
            have HRl : Hid (∀ j, (Value.slice (some ⟨R, 0, none⟩) told.length c2).ownBlock = some j → j < wc.heap.size) := Lib.hid (fun j hj => (HRc.out.lt j hj).2)
            have hwle : w.heap.size ≤ wc.heap.size := HBwc.out.size
            go_wp2_with fail
            refine (issueAt HTc.out (x := xt) (key := xk) (ins := xn) HFit.out.2.2.2.2.1 HFit.out.2.2.2.2.2.1 (by omega) (by have := HSer.out; omega)).mono ?_
            rintro e w4 ⟨he, ht4, hc4⟩
            have HGood := Lib.hid HTc.out.good
            have z4 := hc4.size
            have HR4 : Hid (TRow w4 (.slice (some ⟨R, 0, none⟩) told.length c2) told) := Lib.hid (HRc.out.keep hc4 (fun j hj ho => (HO.out j ho).2.2 hj))
            have HB4 : Hid (Below w.heap.size w w4) := Lib.hid (HBwc.out.trans (hc4.below (fun j hj _ ho => by have := (HO.out j ho).1; omega) HBwc.out.size))
            clear g0 g1 g2 g3 g4 g5 g6 g7 g8 y0 y1 y2 y3 y4 y5
            by_cases hm : mayE t xt = 0
            · rw [show issueR t xt xn xk = (⟨⟨freeI t, lastI t + 1⟩, issueOp t xt xn xk⟩, 0, issueT t xt xn xk) from if_pos hm] at he ht4
              have HT4 := Lib.hid ht4
              have HTo4 := Lib.hid (HTo.out.issued HGood.out (x := xt) (ins := xn) (key := xk) HFit.out.2.2.2.2.1 HFit.out.2.2.2.2.2.1 (by omega) (by have := HSer.out; omega))
              have HNew := Lib.hid (HTo.out.new xt xn xk)
              have hgl := (issue_grows (t := t) (x := xt) (ins := xn) (key := xk)).2
              change e = .returned (.tuple #[.agg #[.int .i64 (freeI t), .int .i64 (lastI t + 1), .int .i64 xt, .bool xn, .int .i64 (if xn then xk else 0), .int .i64 t.serial], .int .i64 0]) at he
              have HNe : Hid (∀ l ∈ told, (l.r.i = (freeI t : Int) → l.r.g ≠ lastI t + 1) ∧ l.o.id ≠ t.serial) := HNew
              have HTT : Hid (Told (told ++ [⟨⟨(freeI t : Int), lastI t + 1⟩, ⟨xt, xn, if xn then xk else 0, t.serial⟩⟩]) (issueT t xt xn xk)) := HTo4
              generalize hfi : (freeI t : Int) = fi at *
              generalize hgi : lastI t + 1 = gi at *
              generalize hki : (if xn then xk else 0) = ki at *
              generalize hsd : t.serial = sd at *
              subst he
              clear ht4 hc4 HTc HRc HBwc HNew HTo4 hm hfi hgi hki
              go_wp2_with fail
              refine gwP (fun wd hwd => ?_)
              have HBd : Hid (Below w4.heap.size w4 wd) := Lib.hid (by rw [← hwd]; exact (Below.refl _ _).alloc (Nat.le_refl _) _)
              have HY : Hid (Blk wd w4.heap.size #[.int .i64 fi, .int .i64 gi, .int .i64 xt, .bool xn, .int .i64 ki, .int .i64 sd] 34) := Lib.hid (by rw [← hwd]; exact Blk.new _ _ _)
              have zd := HY.out.lt
              clear hwd
              go_loopw [10] (fun i2 w2r => ∃ m q : Nat, m ≤ told.length ∧ i2 = .int .i64 m ∧ w2r = wd.drewN q) (fun i2 _ => told.length - (intOf i2).toNat)
              case atStart => exact ⟨0, 0, Nat.zero_le _, rfl, rfl⟩
              case round =>
                obtain ⟨m, q, hm, rfl, rfl⟩ := hrel
                have v0 := HY.out.cell (j := 0) rfl
                have v1 := HY.out.cell (j := 1) rfl
                have v2 := HY.out.cell (j := 2) rfl
                have v3 := HY.out.cell (j := 3) rfl
                have v4 := HY.out.cell (j := 4) rfl
                have v5 := HY.out.cell (j := 5) rfl
                by_cases hml : m < told.length
                · obtain ⟨l2, hl2⟩ : ∃ l2, told[m]? = some l2 := ⟨_, List.getElem?_eq_getElem hml⟩
                  obtain ⟨R2, cp2, hvv, hRl, hcl⟩ := (HR4.out.below HBd.out).cells hl2
                  obtain ⟨ne1, ne2⟩ := HNe.out l2 (List.mem_of_getElem? hl2)
                  obtain ⟨⟨ti, tg⟩, ⟨tt, tn, tk, td⟩⟩ := l2
                  injection hvv with hv1 hv2 hv3
                  subst hv3
                  injection hv1 with hv1
                  injection hv1 with hv1 _ _
                  subst hv1
                  have u0 := hcl 0 _ rfl
                  have u1 := hcl 1 _ rfl
                  have u5 := hcl 5 _ rfl
                  simp only [Nat.add_zero] at u0
                  have n1 : (td == sd) = false := beq_eq_false_iff_ne.2 ne2
                  have hm0 : (0 : Int) ≤ m := by omega
                  have hmN : (m : Int) < told.length := by omega
                  have em : (m : Int).toNat = m := by omega
                  have tm2 : decide (told.length ≤ m) = false := decide_eq_false (by omega)
                  clear hcl hl2 hv2
                  by_cases hti : ti = fi
                  · have n2 : (tg == gi) = false := beq_eq_false_iff_ne.2 (ne1 hti)
                    have n3 : (ti == fi) = true := beq_iff_eq.2 hti
                    clear ne1 ne2 hti
                    go_wp2_with fail
                    go_quiet (fail)
                    go_wp2_with fail
                    go_roundw
                    case rel => exact ⟨m + 1, _, by omega, by go_num, rfl⟩
                    case measure => simp [intOf]; omega
                  · have n3 : (ti == fi) = false := beq_eq_false_iff_ne.2 hti
                    clear ne1 ne2 hti
                    go_wp2_with fail
                    go_quiet (fail)
                    go_wp2_with fail
                    go_roundw
                    case rel => exact ⟨m + 1, _, by omega, by go_num, rfl⟩
                    case measure => simp [intOf]; omega
                · have HRd := Lib.hid (HR4.out.below (bdn HBd.out q))
                  have HBwd : Hid (Below w.heap.size w (wd.drewN q)) := Lib.hid (btrans HB4.out (bdn HBd.out q))
                  have HTd := Lib.hid (HT4.out.below (bdn HBd.out q))
                  have zq : (wd.drewN q).heap.size = wd.heap.size := rfl
                  have Hc1 : Hid (∀ j u, (encL ⟨⟨fi, gi⟩, ⟨xt, xn, ki, sd⟩⟩)[j]? = some u → ((wd.alloc (Obj.cells #[.int .i64 fi, .int .i64 gi, .int .i64 xt, .bool xn, .int .i64 ki, .int .i64 sd] 34)).drewN q).cell? ((⟨wd.heap.size, 0, none⟩ : Addr).add j) = some u) := Lib.hid (fun j u hu => by
                    have hb := Blk.new wd #[.int .i64 fi, .int .i64 gi, .int .i64 xt, .bool xn, .int .i64 ki, .int .i64 sd] 34
                    have := hb.cell (j := j) (v := u) (by simpa [encL] using hu)
                    rw [show ((⟨wd.heap.size, 0, none⟩ : Addr).add j) = ⟨wd.heap.size, j, none⟩ by simp [Addr.add]; intro h; omega]
                    exact this)
                  have Hc2 : Hid (∀ u ∈ encL ⟨⟨fi, gi⟩, ⟨xt, xn, ki, sd⟩⟩, u.oneCell' = true) := Lib.hid (by simp [encL, Value.oneCell'])
                  have Hc3 : Hid (told.length + 1 ≤ maxLen) := Lib.hid (by unfold maxLen; omega)
                  have Hc4 : Hid ((told.length + 1) * 48 ≤ 140737488355328) := Lib.hid (by omega)
                  go_wp2_with (first
                    | (at_builtin
                       refine wpList_append_own_at _ rfl _ _ 26 rfl 0 34 i0 _ 6 48 Try.underlying26 hi hz0 hz1 hz2 rfl (by decide) (.slice (some ⟨R, 0, none⟩) told.length c2) told.length (cellsL told) rfl (HRd.out.alloc _) ⟨wd.heap.size, 0, none⟩ 1 1 (encL ⟨⟨fi, gi⟩, ⟨xt, xn, ki, sd⟩⟩) rfl rfl Hc1.out Hc2.out Hc3.out Hc4.out (Nat.zero_le _) ?_
                       intro v' w6 hown hgrow hnil hloc
                       have HOwn := Lib.hid hown
                       have HLoc := Lib.hid hloc
                       have HG6 : Hid (Chg (fun j => (Value.slice (some ⟨R, 0, none⟩) told.length c2).ownBlock = some j) (wd.drewN q) w6) := Lib.hid (by
                         have h : Chg (fun j => (Value.slice (some ⟨R, 0, none⟩) told.length c2).ownBlock = some j) wd w6 := ((Chg.alloc (Chg.refl _ wd) _).trans ⟨hgrow.os, hgrow.tape, hgrow.output, hgrow.size, fun j hj hne => hgrow.block j hj (fun e => hne e.symm)⟩ (fun _ _ h => h))
                         exact ⟨h.os, h.tape, h.output, h.size, h.block⟩)
                       clear hown hgrow hnil hloc))
                  have z6 := HG6.out.size
                  have hlo6 : ∀ j, v'.ownBlock = some j → (Value.slice (some ⟨R, 0, none⟩) told.length c2).ownBlock = some j ∨ wd.heap.size ≤ j := fun j hj => by
                    rcases HLoc.out with e | e
                    · exact Or.inl (by rw [← e]; exact hj)
                    · rw [e] at hj
                      injection hj with hj
                      right
                      simp at hj
                      omega
                  have HL6 := Lib.hid hlo6
                  clear hlo6
                  go_roundw
                  case rel =>
                    refine ⟨k + 1, told ++ [⟨⟨fi, gi⟩, ⟨xt, xn, ki, sd⟩⟩], _, _, by omega, by go_num, ?_, (HTd.out.keep (w' := w6) (S := fun j => (Value.slice (some ⟨R, 0, none⟩) told.length c2).ownBlock = some j) HG6.out ?_), ?_, ?_, ?_, HTT.out, by omega, by simp; omega⟩
                    · show World.ownsRow w6 0 34 6 v' (told ++ [_]).length (cellsL (told ++ [_]))
                      have := HOwn.out
                      unfold cellsL at this ⊢
                      rw [List.length_append, List.flatMap_append]
                      simpa using this
                    · intro j hj e
                      rcases hj with hj | hj
                      · exact (HO.out j hj).2.2 e
                      · have := HRl.out j e; omega
                    · intro j hj
                      refine ⟨?_, ?_, fun e => ?_⟩
                      · rcases hj with hj | hj
                        · exact (HO.out j hj).1
                        · omega
                      · rcases hj with hj | hj
                        · have := (HO.out j hj).2.1; omega
                        · omega
                      · rcases HL6.out j e with e | e
                        · rcases hj with hj | hj
                          · exact (HO.out j hj).2.2 e
                          · have := HRl.out j e; omega
                        · rcases hj with hj | hj
                          · have := (HO.out j hj).2.1; omega
                          · omega
                    · intro j e
                      rcases HL6.out j e with e | e
                      · exact HV.out j e
                      · omega
                    · exact HBwd.out.trans (HG6.out.below (fun j hj _ e => by have := HV.out j e; omega) HBwd.out.size)
                  case measure => simp [intOf]; omega
            · rw [show issueR t xt xn xk = (listed0, mayE t xt, t) from if_neg hm] at he ht4
              have HT4 := Lib.hid ht4
              change e = .returned (.tuple #[.agg #[.int .i64 0, .int .i64 0, .int .i64 0, .bool false, .int .i64 0, .int .i64 0], .int .i64 (mayE t xt)]) at he
              generalize mayE t xt = E at *
              have t1 : (E == 0) = false := beq_eq_false_iff_ne.2 hm
              have t2 : (E != 0) = true := by rw [bne, t1]; rfl
              have HTo4 := HTo
              subst he
              clear ht4 hc4 HTc HRc HBwc hm
              go_wp2_with fail
              go_roundw
              case rel =>
                refine ⟨k + 1, told, t, More O wc w4, by omega, by go_num, HR4.out.alloc _, HT4.out.below ((Below.refl _ _).alloc (Nat.le_refl _) _), ?_, HV.out, HB4.out.alloc HB4.out.size _, HTo4.out, by omega, by omega⟩
                intro j hj
                refine And.imp_right (And.imp_left (fun h => Nat.lt_of_lt_of_le h ((Below.refl w4.heap.size w4).alloc (Nat.le_refl _) _).size)) (?_ : w.heap.size ≤ j ∧ j < w4.heap.size ∧ _)
                rcases hj with hj | hj
                · exact ⟨(HO.out j hj).1, by have := (HO.out j hj).2.1; omega, (HO.out j hj).2.2⟩
                · exact ⟨by omega, by omega, fun e => by have := HRl.out j e; omega⟩
              case measure => simp [intOf]; omega
          · have g0 := HA9c.out.cell (j := 0) rfl
            have g1 := HA9c.out.cell (j := 1) rfl
            have g2 := HA9c.out.cell (j := 2) rfl
            have g3 := HA9c.out.cell (j := 3) rfl
            have g4 := HA9c.out.cell (j := 4) rfl
            have g5 := HA9c.out.cell (j := 5) rfl
            have g6 := HA9c.out.cell (j := 6) rfl
            have g7 := HA9c.out.cell (j := 7) rfl
            have g8 := HA9c.out.cell (j := 8) rfl
            have y0 := HLc.out.cell (j := 0) rfl
            have y1 := HLc.out.cell (j := 1) rfl
            have y2 := HLc.out.cell (j := 2) rfl
            have y3 := HLc.out.cell (j := 3) rfl
            have y4 := HLc.out.cell (j := 4) rfl
            have y5 := HLc.out.cell (j := 5) rfl
            go_wp2_with fail
            refine (dropAt HTc.out ⟨li, lg⟩).mono ?_
            rintro e w4 ⟨rfl, ht4, hc4⟩
            have HT4 := Lib.hid ht4
            have HR4 : Hid (TRow w4 (.slice (some ⟨R, 0, none⟩) told.length c2) told) := Lib.hid (HRc.out.keep hc4 (fun j hj ho => (HO.out j ho).2.2 hj))
            have HB4 : Hid (Below w.heap.size w w4) := Lib.hid (HBwc.out.trans (hc4.below (fun j hj _ ho => by have := (HO.out j ho).1; omega) HBwc.out.size))
            have z4 := hc4.size
            clear ht4 hc4 HTc HRc HBwc
            obtain ⟨gr1, gr2, gr3⟩ := drop_grows t ⟨li, lg⟩
            have HTo4 := Lib.hid (HTo.out.grow gr1 gr2)
            clear gr1 gr2 g0 g1 g2 g3 g4 g5 g6 g7 g8 y0 y1 y2 y3 y4 y5
            go_wp2_with fail
            go_roundw
            case rel => exact ⟨k + 1, told, _, _, by omega, by go_num, HR4.out, HT4.out, (fun j hj => ⟨(HO.out j hj).1, by have := (HO.out j hj).2.1; omega, (HO.out j hj).2.2⟩), HV.out, HB4.out, HTo4.out, by rw [gr3]; omega, by omega⟩
            case measure => simp [intOf]; omega
          · have g0 := HA9c.out.cell (j := 0) rfl
            have g1 := HA9c.out.cell (j := 1) rfl
            have g2 := HA9c.out.cell (j := 2) rfl
            have g3 := HA9c.out.cell (j := 3) rfl
            have g4 := HA9c.out.cell (j := 4) rfl
            have g5 := HA9c.out.cell (j := 5) rfl
            have g6 := HA9c.out.cell (j := 6) rfl
            have g7 := HA9c.out.cell (j := 7) rfl
            have g8 := HA9c.out.cell (j := 8) rfl
            have y0 := HLc.out.cell (j := 0) rfl
            have y1 := HLc.out.cell (j := 1) rfl
            have y2 := HLc.out.cell (j := 2) rfl
            have y3 := HLc.out.cell (j := 3) rfl
            have y4 := HLc.out.cell (j := 4) rfl
            have y5 := HLc.out.cell (j := 5) rfl
            go_wp2_with fail
            refine (reviveAt HTc.out ⟨⟨li, lg⟩, ⟨lt, ln, lk, ld⟩⟩ HLf.out.2.2).mono ?_
            rintro e w4 ⟨rfl, ht4, hc4⟩
            have HT4 := Lib.hid ht4
            have HR4 : Hid (TRow w4 (.slice (some ⟨R, 0, none⟩) told.length c2) told) := Lib.hid (HRc.out.keep hc4 (fun j hj ho => (HO.out j ho).2.2 hj))
            have HB4 : Hid (Below w.heap.size w w4) := Lib.hid (HBwc.out.trans (hc4.below (fun j hj _ ho => by have := (HO.out j ho).1; omega) HBwc.out.size))
            have z4 := hc4.size
            clear ht4 hc4 HTc HRc HBwc
            obtain ⟨gr1, gr2, gr3⟩ := revive_grows t ⟨⟨li, lg⟩, ⟨lt, ln, lk, ld⟩⟩
            have HTo4 := Lib.hid (HTo.out.grow gr1 gr2)
            clear gr1 gr2 g0 g1 g2 g3 g4 g5 g6 g7 g8 y0 y1 y2 y3 y4 y5
            go_wp2_with fail
            go_roundw
            case rel => exact ⟨k + 1, told, _, _, by omega, by go_num, HR4.out, HT4.out, (fun j hj => ⟨(HO.out j hj).1, by have := (HO.out j hj).2.1; omega, (HO.out j hj).2.2⟩), HV.out, HB4.out, HTo4.out, by rw [gr3]; omega, by omega⟩
            case measure => simp [intOf]; omega
          · have g0 := HA9c.out.cell (j := 0) rfl
            have g1 := HA9c.out.cell (j := 1) rfl
            have g2 := HA9c.out.cell (j := 2) rfl
            have g3 := HA9c.out.cell (j := 3) rfl
            have g4 := HA9c.out.cell (j := 4) rfl
            have g5 := HA9c.out.cell (j := 5) rfl
            have g6 := HA9c.out.cell (j := 6) rfl
            have g7 := HA9c.out.cell (j := 7) rfl
            have g8 := HA9c.out.cell (j := 8) rfl
            have y0 := HLc.out.cell (j := 0) rfl
            have y1 := HLc.out.cell (j := 1) rfl
            have y2 := HLc.out.cell (j := 2) rfl
            have y3 := HLc.out.cell (j := 3) rfl
            have y4 := HLc.out.cell (j := 4) rfl
            have y5 := HLc.out.cell (j := 5) rfl
            go_wp2_with fail
            refine (moveAt HTc.out ⟨li, lg⟩ (x := xt) HFit.out.2.2.2.2.1).mono ?_
            rintro e w4 ⟨rfl, ht4, hc4⟩
            have HT4 := Lib.hid ht4
            have HR4 : Hid (TRow w4 (.slice (some ⟨R, 0, none⟩) told.length c2) told) := Lib.hid (HRc.out.keep hc4 (fun j hj ho => (HO.out j ho).2.2 hj))
            have HB4 : Hid (Below w.heap.size w w4) := Lib.hid (HBwc.out.trans (hc4.below (fun j hj _ ho => by have := (HO.out j ho).1; omega) HBwc.out.size))
            have z4 := hc4.size
            clear ht4 hc4 HTc HRc HBwc
            obtain ⟨gr1, gr2, gr3⟩ := move_grows t ⟨li, lg⟩ xt
            have HTo4 := Lib.hid (HTo.out.grow gr1 gr2)
            clear gr1 gr2 g0 g1 g2 g3 g4 g5 g6 g7 g8 y0 y1 y2 y3 y4 y5
            go_wp2_with fail
            go_roundw
            case rel => exact ⟨k + 1, told, _, _, by omega, by go_num, HR4.out, HT4.out, (fun j hj => ⟨(HO.out j hj).1, by have := (HO.out j hj).2.1; omega, (HO.out j hj).2.2⟩), HV.out, HB4.out, HTo4.out, by rw [gr3]; omega, by omega⟩
            case measure => simp [intOf]; omega

        · go_wp2_with fail
          refine gw (fun wb hwb => ?_)
          have HBa : Hid (Below wr.heap.size wr wb) := Lib.hid (by rw [← hwb]; exact ((Below.refl _ _).alloc (Nat.le_refl _) _).alloc (by simp) _)
          have HA9 : Hid (Blk wb wr.heap.size #[.int .i64 kind, .int .i64 place, .bool true, .int .i64 xi, .int .i64 xg, .int .i64 xt, .bool xn, .int .i64 xk, .int .i64 xd] 36) := Lib.hid (by rw [← hwb]; exact (Blk.new _ _ _).alloc _)
          have HX6 : Hid (Blk wb (wr.heap.size + 1) #[.int .i64 xi, .int .i64 xg, .int .i64 xt, .bool xn, .int .i64 xk, .int .i64 xd] 34) := Lib.hid (by rw [← hwb]; exact Blk.at_ (by simp) _ _)
          clear hwb m0 m1 m2 m3 m4 m5 m6 m7 m8 hadl
          have HBb := HBa
          have HA9b := HA9
          have HLb := HX6
          have HLf : Hid (In64 xi ∧ In64 xg ∧ In64O ⟨xt, xn, xk, xd⟩) := Lib.hid ⟨HFit.out.2.2.1, HFit.out.2.2.2.1, HFit.out.2.2.2.2⟩
          clear HBa HA9 HX6
          refine (rest kind 4 (by decide) _).mono ?_
          rintro e wc0 ⟨rfl, q4, rfl⟩
          have HBc : Hid (Below wr.heap.size wr (wb.drewN q4)) := Lib.hid (bdn HBb.out q4)
          have HA9c : Hid (Blk (wb.drewN q4) wr.heap.size #[.int .i64 kind, .int .i64 place, .bool true, .int .i64 xi, .int .i64 xg, .int .i64 xt, .bool xn, .int .i64 xk, .int .i64 xd] 36) := Lib.hid (HA9b.out.drewN q4)
          have HLc : Hid (Blk (wb.drewN q4) (wr.heap.size + 1) #[.int .i64 xi, .int .i64 xg, .int .i64 xt, .bool xn, .int .i64 xk, .int .i64 xd] 34) := Lib.hid (HLb.out.drewN q4)
          generalize wb.drewN q4 = wc at *
          clear HBb HA9b HLb
          have zc := HLc.out.lt
          have HTc := Lib.hid (HTab.out.below HBc.out)
          have HRc := Lib.hid (HRow.out.below HBc.out)
          have HBwc : Hid (Below w.heap.size w wc) := Lib.hid (btrans HB.out HBc.out)
          clear HTab HRow HB HBc
          rcases hrf with hrf | hrf | hrf | hrf
          all_goals rw [hrf] at *
          all_goals clear hrf
          · have g0 := HA9c.out.cell (j := 0) rfl
            have g1 := HA9c.out.cell (j := 1) rfl
            have g2 := HA9c.out.cell (j := 2) rfl
            have g3 := HA9c.out.cell (j := 3) rfl
            have g4 := HA9c.out.cell (j := 4) rfl
            have g5 := HA9c.out.cell (j := 5) rfl
            have g6 := HA9c.out.cell (j := 6) rfl
            have g7 := HA9c.out.cell (j := 7) rfl
            have g8 := HA9c.out.cell (j := 8) rfl
            have y0 := HLc.out.cell (j := 0) rfl
            have y1 := HLc.out.cell (j := 1) rfl
            have y2 := HLc.out.cell (j := 2) rfl
            have y3 := HLc.out.cell (j := 3) rfl
            have y4 := HLc.out.cell (j := 4) rfl
            have y5 := HLc.out.cell (j := 5) rfl
            have HRl : Hid (∀ j, (Value.slice A2 told.length c2).ownBlock = some j → j < wc.heap.size) := Lib.hid (fun j hj => (HRc.out.lt j hj).2)
            have hwle : w.heap.size ≤ wc.heap.size := HBwc.out.size
            go_wp2_with fail
            refine (issueAt HTc.out (x := xt) (key := xk) (ins := xn) HFit.out.2.2.2.2.1 HFit.out.2.2.2.2.2.1 (by omega) (by have := HSer.out; omega)).mono ?_
            rintro e w4 ⟨he, ht4, hc4⟩
            have HGood := Lib.hid HTc.out.good
            have z4 := hc4.size
            have HR4 : Hid (TRow w4 (.slice A2 told.length c2) told) := Lib.hid (HRc.out.keep hc4 (fun j hj ho => (HO.out j ho).2.2 hj))
            have HB4 : Hid (Below w.heap.size w w4) := Lib.hid (HBwc.out.trans (hc4.below (fun j hj _ ho => by have := (HO.out j ho).1; omega) HBwc.out.size))
            clear g0 g1 g2 g3 g4 g5 g6 g7 g8 y0 y1 y2 y3 y4 y5
            by_cases hm : mayE t xt = 0
            · rw [show issueR t xt xn xk = (⟨⟨freeI t, lastI t + 1⟩, issueOp t xt xn xk⟩, 0, issueT t xt xn xk) from if_pos hm] at he ht4
              have HT4 := Lib.hid ht4
              have HTo4 := Lib.hid (HTo.out.issued HGood.out (x := xt) (ins := xn) (key := xk) HFit.out.2.2.2.2.1 HFit.out.2.2.2.2.2.1 (by omega) (by have := HSer.out; omega))
              have HNew := Lib.hid (HTo.out.new xt xn xk)
              have hgl := (issue_grows (t := t) (x := xt) (ins := xn) (key := xk)).2
              change e = .returned (.tuple #[.agg #[.int .i64 (freeI t), .int .i64 (lastI t + 1), .int .i64 xt, .bool xn, .int .i64 (if xn then xk else 0), .int .i64 t.serial], .int .i64 0]) at he
              have HNe : Hid (∀ l ∈ told, (l.r.i = (freeI t : Int) → l.r.g ≠ lastI t + 1) ∧ l.o.id ≠ t.serial) := HNew
              have HTT : Hid (Told (told ++ [⟨⟨(freeI t : Int), lastI t + 1⟩, ⟨xt, xn, if xn then xk else 0, t.serial⟩⟩]) (issueT t xt xn xk)) := HTo4
              generalize hfi : (freeI t : Int) = fi at *
              generalize hgi : lastI t + 1 = gi at *
              generalize hki : (if xn then xk else 0) = ki at *
              generalize hsd : t.serial = sd at *
              subst he
              clear ht4 hc4 HTc HRc HBwc HNew HTo4 hm hfi hgi hki
              go_wp2_with fail
              refine gwP (fun wd hwd => ?_)
              have HBd : Hid (Below w4.heap.size w4 wd) := Lib.hid (by rw [← hwd]; exact (Below.refl _ _).alloc (Nat.le_refl _) _)
              have HY : Hid (Blk wd w4.heap.size #[.int .i64 fi, .int .i64 gi, .int .i64 xt, .bool xn, .int .i64 ki, .int .i64 sd] 34) := Lib.hid (by rw [← hwd]; exact Blk.new _ _ _)
              have zd := HY.out.lt
              clear hwd
              go_loopw [10] (fun i2 w2r => ∃ m q : Nat, m ≤ told.length ∧ i2 = .int .i64 m ∧ w2r = wd.drewN q) (fun i2 _ => told.length - (intOf i2).toNat)
              case atStart => exact ⟨0, 0, Nat.zero_le _, rfl, rfl⟩
              case round =>
                obtain ⟨m, q, hm, rfl, rfl⟩ := hrel
                have v0 := HY.out.cell (j := 0) rfl
                have v1 := HY.out.cell (j := 1) rfl
                have v2 := HY.out.cell (j := 2) rfl
                have v3 := HY.out.cell (j := 3) rfl
                have v4 := HY.out.cell (j := 4) rfl
                have v5 := HY.out.cell (j := 5) rfl
                by_cases hml : m < told.length
                · obtain ⟨l2, hl2⟩ : ∃ l2, told[m]? = some l2 := ⟨_, List.getElem?_eq_getElem hml⟩
                  obtain ⟨R2, cp2, hvv, hRl, hcl⟩ := (HR4.out.below HBd.out).cells hl2
                  obtain ⟨ne1, ne2⟩ := HNe.out l2 (List.mem_of_getElem? hl2)
                  obtain ⟨⟨ti, tg⟩, ⟨tt, tn, tk, td⟩⟩ := l2
                  injection hvv with hv1 hv2 hv3
                  subst hv1
                  subst hv3
                  have u0 := hcl 0 _ rfl
                  have u1 := hcl 1 _ rfl
                  have u5 := hcl 5 _ rfl
                  simp only [Nat.add_zero] at u0
                  have n1 : (td == sd) = false := beq_eq_false_iff_ne.2 ne2
                  have hm0 : (0 : Int) ≤ m := by omega
                  have hmN : (m : Int) < told.length := by omega
                  have em : (m : Int).toNat = m := by omega
                  have tm2 : decide (told.length ≤ m) = false := decide_eq_false (by omega)
                  clear hcl hl2 hv2
                  by_cases hti : ti = fi
                  · have n2 : (tg == gi) = false := beq_eq_false_iff_ne.2 (ne1 hti)
                    have n3 : (ti == fi) = true := beq_iff_eq.2 hti
                    clear ne1 ne2 hti
                    go_wp2_with fail
                    go_quiet (fail)
                    go_wp2_with fail
                    go_roundw
                    case rel => exact ⟨m + 1, _, by omega, by go_num, rfl⟩
                    case measure => simp [intOf]; omega
                  · have n3 : (ti == fi) = false := beq_eq_false_iff_ne.2 hti
                    clear ne1 ne2 hti
                    go_wp2_with fail
                    go_quiet (fail)
                    go_wp2_with fail
                    go_roundw
                    case rel => exact ⟨m + 1, _, by omega, by go_num, rfl⟩
                    case measure => simp [intOf]; omega
                · have HRd := Lib.hid (HR4.out.below (bdn HBd.out q))
                  have HBwd : Hid (Below w.heap.size w (wd.drewN q)) := Lib.hid (btrans HB4.out (bdn HBd.out q))
                  have HTd := Lib.hid (HT4.out.below (bdn HBd.out q))
                  have zq : (wd.drewN q).heap.size = wd.heap.size := rfl
                  have Hc1 : Hid (∀ j u, (encL ⟨⟨fi, gi⟩, ⟨xt, xn, ki, sd⟩⟩)[j]? = some u → ((wd.alloc (Obj.cells #[.int .i64 fi, .int .i64 gi, .int .i64 xt, .bool xn, .int .i64 ki, .int .i64 sd] 34)).drewN q).cell? ((⟨wd.heap.size, 0, none⟩ : Addr).add j) = some u) := Lib.hid (fun j u hu => by
                    have hb := Blk.new wd #[.int .i64 fi, .int .i64 gi, .int .i64 xt, .bool xn, .int .i64 ki, .int .i64 sd] 34
                    have := hb.cell (j := j) (v := u) (by simpa [encL] using hu)
                    rw [show ((⟨wd.heap.size, 0, none⟩ : Addr).add j) = ⟨wd.heap.size, j, none⟩ by simp [Addr.add]; intro h; omega]
                    exact this)
                  have Hc2 : Hid (∀ u ∈ encL ⟨⟨fi, gi⟩, ⟨xt, xn, ki, sd⟩⟩, u.oneCell' = true) := Lib.hid (by simp [encL, Value.oneCell'])
                  have Hc3 : Hid (told.length + 1 ≤ maxLen) := Lib.hid (by unfold maxLen; omega)
                  have Hc4 : Hid ((told.length + 1) * 48 ≤ 140737488355328) := Lib.hid (by omega)
                  go_wp2_with (first
                    | (at_builtin
                       refine wpList_append_own_at _ rfl _ _ 26 rfl 0 34 i0 _ 6 48 Try.underlying26 hi hz0 hz1 hz2 rfl (by decide) (.slice A2 told.length c2) told.length (cellsL told) rfl (HRd.out.alloc _) ⟨wd.heap.size, 0, none⟩ 1 1 (encL ⟨⟨fi, gi⟩, ⟨xt, xn, ki, sd⟩⟩) rfl rfl Hc1.out Hc2.out Hc3.out Hc4.out (Nat.zero_le _) ?_
                       intro v' w6 hown hgrow hnil hloc
                       have HOwn := Lib.hid hown
                       have HLoc := Lib.hid hloc
                       have HG6 : Hid (Chg (fun j => (Value.slice A2 told.length c2).ownBlock = some j) (wd.drewN q) w6) := Lib.hid (by
                         have h : Chg (fun j => (Value.slice A2 told.length c2).ownBlock = some j) wd w6 := ((Chg.alloc (Chg.refl _ wd) _).trans ⟨hgrow.os, hgrow.tape, hgrow.output, hgrow.size, fun j hj hne => hgrow.block j hj (fun e => hne e.symm)⟩ (fun _ _ h => h))
                         exact ⟨h.os, h.tape, h.output, h.size, h.block⟩)
                       clear hown hgrow hnil hloc))
                  have z6 := HG6.out.size
                  have hlo6 : ∀ j, v'.ownBlock = some j → (Value.slice A2 told.length c2).ownBlock = some j ∨ wd.heap.size ≤ j := fun j hj => by
                    rcases HLoc.out with e | e
                    · exact Or.inl (by rw [← e]; exact hj)
                    · rw [e] at hj
                      injection hj with hj
                      right
                      simp at hj
                      omega
                  have HL6 := Lib.hid hlo6
                  clear hlo6
                  go_roundw
                  case rel =>
                    refine ⟨k + 1, told ++ [⟨⟨fi, gi⟩, ⟨xt, xn, ki, sd⟩⟩], _, _, by omega, by go_num, ?_, (HTd.out.keep (w' := w6) (S := fun j => (Value.slice A2 told.length c2).ownBlock = some j) HG6.out ?_), ?_, ?_, ?_, HTT.out, by omega, by simp; omega⟩
                    · show World.ownsRow w6 0 34 6 v' (told ++ [_]).length (cellsL (told ++ [_]))
                      have := HOwn.out
                      unfold cellsL at this ⊢
                      rw [List.length_append, List.flatMap_append]
                      simpa using this
                    · intro j hj e
                      rcases hj with hj | hj
                      · exact (HO.out j hj).2.2 e
                      · have := HRl.out j e; omega
                    · intro j hj
                      refine ⟨?_, ?_, fun e => ?_⟩
                      · rcases hj with hj | hj
                        · exact (HO.out j hj).1
                        · omega
                      · rcases hj with hj | hj
                        · have := (HO.out j hj).2.1; omega
                        · omega
                      · rcases HL6.out j e with e | e
                        · rcases hj with hj | hj
                          · exact (HO.out j hj).2.2 e
                          · have := HRl.out j e; omega
                        · rcases hj with hj | hj
                          · have := (HO.out j hj).2.1; omega
                          · omega
                    · intro j e
                      rcases HL6.out j e with e | e
                      · exact HV.out j e
                      · omega
                    · exact HBwd.out.trans (HG6.out.below (fun j hj _ e => by have := HV.out j e; omega) HBwd.out.size)
                  case measure => simp [intOf]; omega
            · rw [show issueR t xt xn xk = (listed0, mayE t xt, t) from if_neg hm] at he ht4
              have HT4 := Lib.hid ht4
              change e = .returned (.tuple #[.agg #[.int .i64 0, .int .i64 0, .int .i64 0, .bool false, .int .i64 0, .int .i64 0], .int .i64 (mayE t xt)]) at he
              generalize mayE t xt = E at *
              have t1 : (E == 0) = false := beq_eq_false_iff_ne.2 hm
              have t2 : (E != 0) = true := by rw [bne, t1]; rfl
              have HTo4 := HTo
              subst he
              clear ht4 hc4 HTc HRc HBwc hm
              go_wp2_with fail
              go_roundw
              case rel =>
                refine ⟨k + 1, told, t, More O wc w4, by omega, by go_num, HR4.out.alloc _, HT4.out.below ((Below.refl _ _).alloc (Nat.le_refl _) _), ?_, HV.out, HB4.out.alloc HB4.out.size _, HTo4.out, by omega, by omega⟩
                intro j hj
                refine And.imp_right (And.imp_left (fun h => Nat.lt_of_lt_of_le h ((Below.refl w4.heap.size w4).alloc (Nat.le_refl _) _).size)) (?_ : w.heap.size ≤ j ∧ j < w4.heap.size ∧ _)
                rcases hj with hj | hj
                · exact ⟨(HO.out j hj).1, by have := (HO.out j hj).2.1; omega, (HO.out j hj).2.2⟩
                · exact ⟨by omega, by omega, fun e => by have := HRl.out j e; omega⟩
              case measure => simp [intOf]; omega
          · have g0 := HA9c.out.cell (j := 0) rfl
            have g1 := HA9c.out.cell (j := 1) rfl
            have g2 := HA9c.out.cell (j := 2) rfl
            have g3 := HA9c.out.cell (j := 3) rfl
            have g4 := HA9c.out.cell (j := 4) rfl
            have g5 := HA9c.out.cell (j := 5) rfl
            have g6 := HA9c.out.cell (j := 6) rfl
            have g7 := HA9c.out.cell (j := 7) rfl
            have g8 := HA9c.out.cell (j := 8) rfl
            have y0 := HLc.out.cell (j := 0) rfl
            have y1 := HLc.out.cell (j := 1) rfl
            have y2 := HLc.out.cell (j := 2) rfl
            have y3 := HLc.out.cell (j := 3) rfl
            have y4 := HLc.out.cell (j := 4) rfl
            have y5 := HLc.out.cell (j := 5) rfl
            go_wp2_with fail
            refine (dropAt HTc.out ⟨xi, xg⟩).mono ?_
            rintro e w4 ⟨rfl, ht4, hc4⟩
            have HT4 := Lib.hid ht4
            have HR4 : Hid (TRow w4 (.slice A2 told.length c2) told) := Lib.hid (HRc.out.keep hc4 (fun j hj ho => (HO.out j ho).2.2 hj))
            have HB4 : Hid (Below w.heap.size w w4) := Lib.hid (HBwc.out.trans (hc4.below (fun j hj _ ho => by have := (HO.out j ho).1; omega) HBwc.out.size))
            have z4 := hc4.size
            clear ht4 hc4 HTc HRc HBwc
            obtain ⟨gr1, gr2, gr3⟩ := drop_grows t ⟨xi, xg⟩
            have HTo4 := Lib.hid (HTo.out.grow gr1 gr2)
            clear gr1 gr2 g0 g1 g2 g3 g4 g5 g6 g7 g8 y0 y1 y2 y3 y4 y5
            go_wp2_with fail
            go_roundw
            case rel => exact ⟨k + 1, told, _, _, by omega, by go_num, HR4.out, HT4.out, (fun j hj => ⟨(HO.out j hj).1, by have := (HO.out j hj).2.1; omega, (HO.out j hj).2.2⟩), HV.out, HB4.out, HTo4.out, by rw [gr3]; omega, by omega⟩
            case measure => simp [intOf]; omega
          · have g0 := HA9c.out.cell (j := 0) rfl
            have g1 := HA9c.out.cell (j := 1) rfl
            have g2 := HA9c.out.cell (j := 2) rfl
            have g3 := HA9c.out.cell (j := 3) rfl
            have g4 := HA9c.out.cell (j := 4) rfl
            have g5 := HA9c.out.cell (j := 5) rfl
            have g6 := HA9c.out.cell (j := 6) rfl
            have g7 := HA9c.out.cell (j := 7) rfl
            have g8 := HA9c.out.cell (j := 8) rfl
            have y0 := HLc.out.cell (j := 0) rfl
            have y1 := HLc.out.cell (j := 1) rfl
            have y2 := HLc.out.cell (j := 2) rfl
            have y3 := HLc.out.cell (j := 3) rfl
            have y4 := HLc.out.cell (j := 4) rfl
            have y5 := HLc.out.cell (j := 5) rfl
            go_wp2_with fail
            refine (reviveAt HTc.out ⟨⟨xi, xg⟩, ⟨xt, xn, xk, xd⟩⟩ HLf.out.2.2).mono ?_
            rintro e w4 ⟨rfl, ht4, hc4⟩
            have HT4 := Lib.hid ht4
            have HR4 : Hid (TRow w4 (.slice A2 told.length c2) told) := Lib.hid (HRc.out.keep hc4 (fun j hj ho => (HO.out j ho).2.2 hj))
            have HB4 : Hid (Below w.heap.size w w4) := Lib.hid (HBwc.out.trans (hc4.below (fun j hj _ ho => by have := (HO.out j ho).1; omega) HBwc.out.size))
            have z4 := hc4.size
            clear ht4 hc4 HTc HRc HBwc
            obtain ⟨gr1, gr2, gr3⟩ := revive_grows t ⟨⟨xi, xg⟩, ⟨xt, xn, xk, xd⟩⟩
            have HTo4 := Lib.hid (HTo.out.grow gr1 gr2)
            clear gr1 gr2 g0 g1 g2 g3 g4 g5 g6 g7 g8 y0 y1 y2 y3 y4 y5
            go_wp2_with fail
            go_roundw
            case rel => exact ⟨k + 1, told, _, _, by omega, by go_num, HR4.out, HT4.out, (fun j hj => ⟨(HO.out j hj).1, by have := (HO.out j hj).2.1; omega, (HO.out j hj).2.2⟩), HV.out, HB4.out, HTo4.out, by rw [gr3]; omega, by omega⟩
            case measure => simp [intOf]; omega
          · have g0 := HA9c.out.cell (j := 0) rfl
            have g1 := HA9c.out.cell (j := 1) rfl
            have g2 := HA9c.out.cell (j := 2) rfl
            have g3 := HA9c.out.cell (j := 3) rfl
            have g4 := HA9c.out.cell (j := 4) rfl
            have g5 := HA9c.out.cell (j := 5) rfl
            have g6 := HA9c.out.cell (j := 6) rfl
            have g7 := HA9c.out.cell (j := 7) rfl
            have g8 := HA9c.out.cell (j := 8) rfl
            have y0 := HLc.out.cell (j := 0) rfl
            have y1 := HLc.out.cell (j := 1) rfl
            have y2 := HLc.out.cell (j := 2) rfl
            have y3 := HLc.out.cell (j := 3) rfl
            have y4 := HLc.out.cell (j := 4) rfl
            have y5 := HLc.out.cell (j := 5) rfl
            go_wp2_with fail
            refine (moveAt HTc.out ⟨xi, xg⟩ (x := xt) HFit.out.2.2.2.2.1).mono ?_
            rintro e w4 ⟨rfl, ht4, hc4⟩
            have HT4 := Lib.hid ht4
            have HR4 : Hid (TRow w4 (.slice A2 told.length c2) told) := Lib.hid (HRc.out.keep hc4 (fun j hj ho => (HO.out j ho).2.2 hj))
            have HB4 : Hid (Below w.heap.size w w4) := Lib.hid (HBwc.out.trans (hc4.below (fun j hj _ ho => by have := (HO.out j ho).1; omega) HBwc.out.size))
            have z4 := hc4.size
            clear ht4 hc4 HTc HRc HBwc
            obtain ⟨gr1, gr2, gr3⟩ := move_grows t ⟨xi, xg⟩ xt
            have HTo4 := Lib.hid (HTo.out.grow gr1 gr2)
            clear gr1 gr2 g0 g1 g2 g3 g4 g5 g6 g7 g8 y0 y1 y2 y3 y4 y5
            go_wp2_with fail
            go_roundw
            case rel => exact ⟨k + 1, told, _, _, by omega, by go_num, HR4.out, HT4.out, (fun j hj => ⟨(HO.out j hj).1, by have := (HO.out j hj).2.1; omega, (HO.out j hj).2.2⟩), HV.out, HB4.out, HTo4.out, by rw [gr3]; omega, by omega⟩
            case measure => simp [intOf]; omega

    · have hkn : k = n := by omega
      have t1 : (t.serial == (told.length : Int)) = true := beq_iff_eq.2 HSer.out
      go_wp2_with fail
      refine (serialAt HTab.out).mono ?_
      rintro e w' ⟨rfl, rfl⟩
      go_wp2_with fail
      go_ret
      exact ⟨rfl, HB.out⟩
end Go.Proofs.Ytccfjjaljckinaa.Tag
