/- What words say, by the program: the fields. No conditions. -/
import Derived.Test.YtddmlhcjbifkoaaDoorVerb5
namespace Go.Proofs.YtddmlhcjbifkoaaDoor.Verb
open Go.Lib Go.RowKit Go.Proofs.YtddmlhcjbifkoaaDoor.Mem Go.Proofs.YtddmlhcjbifkoaaDoorW.PrintWords Go.Proofs.YtddmlhcjbifkoaaDoor.Item

set_option maxRecDepth 100000 in
set_option maxHeartbeats 1000000 in
theorem parse_bad (A : Option Addr) (c : Nat) (x : ByteArray) (r : List ByteArray) (w : World) (hC : Kd.C Kd.string w A (x :: r).length (x :: r)) (hT : Tbl w) {j : Nat} (hn : findC x 0 = some j) (hbad : (wantsF j).length ≠ r.length) (hr : r.length ≤ 1000000) : Calls Tryd.prog 32 #[.slice A (x :: r).length c] w (ParsePost (x :: r) w) := by
  have hu52 := Tryd.underlying52
  have hu50 := Tryd.underlying50
  have hu84 := Tryd.underlying84
  have hu85 := Tryd.underlying85
  have HX : Hid (Blk (w.alloc (Obj.cells #[Value.int .i64 0, .int .i64 0, .int .i64 0, .int .i64 0, .int .i64 0] 52)) w.heap.size #[Value.int .i64 0, .int .i64 0, .int .i64 0, .int .i64 0, .int .i64 0] 52) := Lib.hid (Blk.new _ _ _)
  have hb : Below w.heap.size w (w.alloc (Obj.cells #[Value.int .i64 0, .int .i64 0, .int .i64 0, .int .i64 0, .int .i64 0] 52)) := (Below.refl _ _).alloc (Nat.le_refl _) _
  have HB := Lib.hid hb
  obtain ⟨ad, hA, c0⟩ := cell_str (Kd.C_below hC hb) (i := 0) rfl
  subst hA
  rw [add_zero'] at c0
  have CF := Lib.hid (find_ x _ (hT.step hb))
  rw [hn] at CF
  obtain ⟨hj, hj0, hjx, hfc⟩ := firstC_of (n := r.length) hn
  have HT := Lib.hid hT
  have hl : (((x :: r).length : Nat) : Int) ≠ 0 := by rw [List.length_cons]; omega
  have hl0 : (0 : Int) < (((x :: r).length : Nat) : Int) := by rw [List.length_cons]; omega
  have t0 : ((((x :: r).length : Nat) : Int) == 0) = false := beq_eq_false_iff_ne.2 hl
  have t1 : decide ((j : Int) < 0) = false := decide_eq_false (by omega)
  have j0 : (0 : Int) ≤ j := by omega
  have j1 : (j : Int) < 18 := by omega
  have j2 : ((j : Int)).toNat = j := by omega
  have HR : Hid (parseR (x :: r) = (zeroS, 31)) := Lib.hid (by show parseC (firstC x r.length 1) r = _; rw [hfc, if_neg hbad]; rfl)
  obtain ⟨L, hL⟩ : ∃ L, L = lowAt j := ⟨_, rfl⟩
  have hLs : L.size = (wantsF j).length := by rw [hL, ← low_is j hj, List.length_map, sz]
  have hw0 : wrap64 (1 + (L.size : Int)) = 1 + (L.size : Int) := by have := few j hj; unfold wrap64; omega
  have t2 : ((((x :: r).length : Nat) : Int) == 1 + (L.size : Int)) = false := beq_eq_false_iff_ne.2 (by rw [List.length_cons]; omega)
  have HW : Hid (∀ w', Below w.heap.size w w' → w'.cell? ⟨0, j * 2 + 1, none⟩ = some (.string L)) := Lib.hid (fun w' hb => by rw [hL, Nat.mul_comm j 2]; exact (HT.out.step hb).wants hj)
  generalize (x :: r).length = n at *
  clear hb hC hT hn hl hj hj0 hjx hfc hbad hr hL hLs
  go_enter Tryd.func32, Tryd.ntmps32
  go_wp2_with fail
  refine CF.out.mono ?_
  rintro e w1 ⟨rfl, hb⟩
  have HX1 := Lib.hid (HX.out.below hb)
  have HB1 := Lib.hid (HB.out.trans (hb.mono HB.out.size))
  have cw := HW.out _ HB1.out
  have d0 := HX1.out.cell (j := 0) rfl
  have d1 := HX1.out.cell (j := 1) rfl
  have d2 := HX1.out.cell (j := 2) rfl
  have d3 := HX1.out.cell (j := 3) rfl
  have d4 := HX1.out.cell (j := 4) rfl
  have f0 := HX1.out.free 0
  have f1 := HX1.out.free 1
  have f2 := HX1.out.free 2
  have f3 := HX1.out.free 3
  have f4 := HX1.out.free 4
  clear hb c0 CF HX HB HW HT
  simp only [findI]
  go_wp2_with fail
  trace_state
  refine bodyPost_ret (results_ct rfl _ _ w.heap.size 52 #[Value.int .i64 0, .int .i64 0, .int .i64 0, .int .i64 0, .int .i64 0] (0, 0) _ rfl ((((((HX1.out).set 0 (.int .i64 0)).set 1 (.int .i64 0)).set 2 (.int .i64 0)).set 3 (.int .i64 0)).set 4 (.int .i64 0)) Tryd.underlying52 rfl (by kernel_rfl)) rfl ?_
  exact ⟨by rw [HR.out]; rfl, (((((HB1.out).setCell (Nat.le_refl _) _).setCell (Nat.le_refl _) _).setCell (Nat.le_refl _) _).setCell (Nat.le_refl _) _).setCell (Nat.le_refl _) _⟩
end Go.Proofs.YtddmlhcjbifkoaaDoor.Verb
namespace Go.Proofs.YtddmlhcjbifkoaaDoor.Verb
open Go.Lib Go.RowKit Go.Proofs.YtddmlhcjbifkoaaDoor.Mem Go.Proofs.YtddmlhcjbifkoaaDoorW.PrintWords Go.Proofs.YtddmlhcjbifkoaaDoor.Item

set_option maxRecDepth 100000 in
set_option maxHeartbeats 4000000 in
theorem parse_loop (A : Option Addr) (c : Nat) (x : ByteArray) (r : List ByteArray) (w : World) (hC : Kd.C Kd.string w A (x :: r).length (x :: r)) (hc : (x :: r).length ≤ c) (hz : ∀ y ∈ r, y.size ≤ 1000000) (hT : Tbl w) (he : Env w) {j : Nat} (hn : findC x 0 = some j) (hok : (wantsF j).length = r.length) : Calls Tryd.prog 32 #[.slice A (x :: r).length c] w (ParsePost (x :: r) w) := by
  have hu52 := Tryd.underlying52
  have hu50 := Tryd.underlying50
  have hu84 := Tryd.underlying84
  have hu85 := Tryd.underlying85
  have HX : Hid (Blk (w.alloc (Obj.cells #[Value.int .i64 0, .int .i64 0, .int .i64 0, .int .i64 0, .int .i64 0] 52)) w.heap.size #[Value.int .i64 0, .int .i64 0, .int .i64 0, .int .i64 0, .int .i64 0] 52) := Lib.hid (Blk.new _ _ _)
  have hb : Below w.heap.size w (w.alloc (Obj.cells #[Value.int .i64 0, .int .i64 0, .int .i64 0, .int .i64 0, .int .i64 0] 52)) := (Below.refl _ _).alloc (Nat.le_refl _) _
  have HB := Lib.hid hb
  obtain ⟨ad, hA, c0⟩ := cell_str (Kd.C_below hC hb) (i := 0) rfl
  subst hA
  rw [add_zero'] at c0
  have CF := Lib.hid (find_ x _ (hT.step hb))
  rw [hn] at CF
  obtain ⟨hj, hj0, hjx, hfc⟩ := firstC_of (n := r.length) hn
  have HT := Lib.hid hT
  have hl : (((x :: r).length : Nat) : Int) ≠ 0 := by rw [List.length_cons]; omega
  have hl0 : (0 : Int) < (((x :: r).length : Nat) : Int) := by rw [List.length_cons]; omega
  have t0 : ((((x :: r).length : Nat) : Int) == 0) = false := beq_eq_false_iff_ne.2 hl
  have t1 : decide ((j : Int) < 0) = false := decide_eq_false (by omega)
  have j0 : (0 : Int) ≤ j := by omega
  have j1 : (j : Int) < 18 := by omega
  have j2 : ((j : Int)).toNat = j := by omega
  have HR : Hid (parseR (x :: r) = outP (goP ⟨j, 0, 0, 0, 0⟩ (wantsF j) r)) := Lib.hid (by show parseC (firstC x r.length 1) r = _; rw [hfc, if_pos hok]; rfl)
  obtain ⟨L, hL⟩ : ∃ L, L = lowAt j := ⟨_, rfl⟩
  have hLs : L.size = r.length := by rw [hL, ← hok, ← low_is j hj, List.length_map, sz]
  have hr2 : r.length ≤ 2 := by rw [← hok]; exact few j hj
  have hw0 : wrap64 (1 + (L.size : Int)) = 1 + (L.size : Int) := by unfold wrap64; omega
  have t2 : ((((x :: r).length : Nat) : Int) == 1 + (L.size : Int)) = true := beq_iff_eq.2 (by rw [List.length_cons]; omega)
  have HW : Hid (∀ w', Below w.heap.size w w' → w'.cell? ⟨0, j * 2 + 1, none⟩ = some (.string L)) := Lib.hid (fun w' hb => by rw [hL, Nat.mul_comm j 2]; exact (HT.out.step hb).wants hj)
  have HLc : Hid (∀ (k : Nat), k < r.length → ∃ cc, L.data.toList[k]? = some cc ∧ (cc = 116 ∨ cc = 110 ∨ cc = 104) ∧ (wantsF j)[k]? = some (lowF cc)) := Lib.hid (fun k hk => by
    have hk' : k < (lowAt j).data.toList.length := by rw [← hL, sz]; omega
    refine ⟨(lowAt j).data.toList[k], by rw [hL]; exact List.getElem?_eq_getElem hk', low_chars j hj _ (List.getElem_mem hk'), ?_⟩
    rw [← low_is j hj, List.getElem?_map, List.getElem?_eq_getElem hk']
    rfl)
  have HWd : Hid (∀ (k : Nat) (y : ByteArray), r[k]? = some y → ∀ w', Below w.heap.size w w' → w'.cell? (ad.add (1 + k)) = some (.string y)) := Lib.hid (fun k y hy w' hb => by
    obtain ⟨ad', hA', hc'⟩ := cell_str (Kd.C_below hC hb) (i := 1 + k) (by rw [Nat.add_comm 1 k]; exact hy)
    cases hA'
    exact hc')
  have HE := Lib.hid he
  have HZ := Lib.hid hz
  obtain ⟨m, hm⟩ : ∃ m, m = r.length := ⟨_, rfl⟩
  have hlen : (x :: r).length = m + 1 := by rw [List.length_cons, hm]
  rw [hlen] at hc hl hl0 t0 t2 ⊢
  rw [← hm] at hLs hr2 HLc hok
  have HM := Lib.hid hm
  have HO := Lib.hid hok
  have hc1 : 1 ≤ c := by omega
  have t3 : ((m : Int) + 1 == 0) = false := beq_eq_false_iff_ne.2 (by omega)
  have t4 : ((m : Int) + 1 != 1 + (m : Int)) = false := by simp only [bne_eq_false_iff_eq]; omega
  rcases Nat.eq_or_lt_of_le hc1 with h1 | h1
  case' inl =>
    subst h1
    have hm0 : m = 0 := by omega
  case' inr =>
    have hn1 : ¬ (c = 1) := by omega
    have hn2 : ¬ (1 = c) := by omega
  all_goals
    clear hb hC hT hn hl hj hj0 hjx hfc hok hL he hz hm hlen
    go_enter Tryd.func32, Tryd.ntmps32
    go_wp2_with fail
    refine CF.out.mono ?_
    rintro e w1 ⟨rfl, hb⟩
    have HX1 := Lib.hid (HX.out.below hb)
    have HB1 := Lib.hid (HB.out.trans (hb.mono HB.out.size))
    have cw := HW.out _ HB1.out
    have hlt0 := HX1.out.lt
    clear hb c0 CF HX HB HT
    simp only [findI]
    go_wp2_with fail
    have HS : Hid (Blk (w1.alloc (Obj.cells #[Value.int .i64 j, .int .i64 0, .int .i64 0, .int .i64 0, .int .i64 0] 52)) w1.heap.size (cellsS ⟨j, 0, 0, 0, 0⟩) 52) := Lib.hid (Blk.new _ _ _)
    have HXs : Hid (Blk (w1.alloc (Obj.cells #[Value.int .i64 j, .int .i64 0, .int .i64 0, .int .i64 0, .int .i64 0] 52)) w.heap.size #[Value.int .i64 0, .int .i64 0, .int .i64 0, .int .i64 0, .int .i64 0] 52) := Lib.hid (HX1.out.alloc _)
    have HBs : Hid (Below w.heap.size w (w1.alloc (Obj.cells #[Value.int .i64 j, .int .i64 0, .int .i64 0, .int .i64 0, .int .i64 0] 52))) := Lib.hid (HB1.out.alloc HB1.out.size _)
    have HLt := Lib.hid hlt0
    have HSz := Lib.hid HB1.out.size
    clear cw HX1 HB1 hlt0
    go_loopw [35] (fun i wr => ∃ (k : Nat) (s : SaidV), k ≤ m ∧ i = .int .i64 k ∧ goP ⟨j, 0, 0, 0, 0⟩ (wantsF j) r = goP s ((wantsF j).drop k) (r.drop k) ∧ Blk wr w1.heap.size (cellsS s) 52 ∧ Blk wr w.heap.size #[Value.int .i64 0, .int .i64 0, .int .i64 0, .int .i64 0, .int .i64 0] 52 ∧ Below w.heap.size w wr) (fun i _ => m - (intOf i).toNat)
    case atStart => exact ⟨0, _, Nat.zero_le _, rfl, rfl, HS.out, HXs.out, HBs.out⟩
    case round =>
      clear HS HXs HBs
      obtain ⟨k, s, hk, rfl, hg, hs, hx, hb⟩ := hrel
      have HG := Lib.hid hg
      have HS := Lib.hid hs
      have HX := Lib.hid hx
      have HB := Lib.hid hb
      clear hg hs hx hb
      by_cases hlt : k < m
      · try (exfalso; omega)
        all_goals
          obtain ⟨y, hy⟩ : ∃ y, r[k]? = some y := ⟨_, List.getElem?_eq_getElem (by rw [← HM.out]; exact hlt)⟩
          have HY := Lib.hid hy
          have cy := HWd.out k y hy wr HB.out
          rw [Nat.add_comm 1 k, Addr.add_succ'] at cy
          rw [show ad.off + (k + 1) = ad.off + 1 + k by omega] at cy
          have cw := HW.out _ HB.out
          obtain ⟨cc, hcc, hch, hfc⟩ := HLc.out k hlt
          have HFc := Lib.hid hfc
          have hlk : k < L.size := by omega
          have hLk : L[k] = cc := by
            have e : L.data.toList[k]? = some L[k] := by
              rw [List.getElem?_eq_getElem (by rw [sz]; exact hlk)]
              rfl
            rw [e] at hcc
            injection hcc
          have HSt : Hid (goP s ((wantsF j).drop k) (r.drop k) = (putF s (lowF cc) y).bind fun s' => goP s' ((wantsF j).drop (k + 1)) (r.drop (k + 1))) := Lib.hid (by
            have hkw := (List.getElem?_eq_some_iff.1 hfc)
            have hkr := (List.getElem?_eq_some_iff.1 hy)
            rw [List.drop_eq_getElem_cons hkw.1, List.drop_eq_getElem_cons hkr.1, hkw.2, hkr.2]
            rfl)
          have k0 : (0 : Int) ≤ k := by omega
          have k1 : (k : Int) < m := by omega
          have k2 : ((k : Int)).toNat = k := by omega
          have k3 : (k : Int) < L.size := by omega
          have HEr := Lib.hid (HE.out.step HB.out)
          have HZy := Lib.hid (HZ.out y (List.mem_of_getElem? HY.out))
          have TK : Hid (Calls Tryd.prog 58 #[.pointer (some ⟨w1.heap.size, 0, none⟩), .int .u8 (L[k].toNat : Int), .string y] wr (TakePost w1.heap.size s (lowF cc) y wr)) := Lib.hid (by
            rw [hLk]
            rcases hch with rfl | rfl | rfl
            · exact take_t _ s y wr HS.out HZy.out HEr.out
            · exact take_n _ s y wr HS.out HZy.out HEr.out
            · exact take_h _ s y wr HS.out HZy.out HEr.out)
          clear hy hcc hfc hch hLk
          go_wp2_with fail
          refine TK.out.mono ?_
          rintro e w5 ⟨b, s', rfl, hput, hs5, hc5⟩
          have HX5 : Hid (Blk w5 w.heap.size #[Value.int .i64 0, .int .i64 0, .int .i64 0, .int .i64 0, .int .i64 0] 52) := Lib.hid (HX.out.keep hc5 (by have := HLt.out; omega))
          have HB5 : Hid (Below w.heap.size w w5) := Lib.hid (Chg.onto HB.out hc5 (Nat.le_refl _) (fun q hq hqe => by have := HSz.out; omega))
          have HPut := Lib.hid hput
          have HS5 := Lib.hid hs5
          clear hput hs5 hc5 HX HB cy cw TK
          have d0 := HX5.out.cell (j := 0) rfl
          have d1 := HX5.out.cell (j := 1) rfl
          have d2 := HX5.out.cell (j := 2) rfl
          have d3 := HX5.out.cell (j := 3) rfl
          have d4 := HX5.out.cell (j := 4) rfl
          have f0 := HX5.out.free 0
          have f1 := HX5.out.free 1
          have f2 := HX5.out.free 2
          have f3 := HX5.out.free 3
          have f4 := HX5.out.free 4
          cases b with
          | false =>
            have HRR : Hid (parseR (x :: r) = (zeroS, 31)) := Lib.hid (by rw [HR.out, HG.out, HSt.out, HPut.out]; rfl)
            clear HSt HPut HG HS HS5
            go_wp2_with fail
            refine bodyPost_ret (results_ct rfl _ _ w.heap.size 52 #[Value.int .i64 0, .int .i64 0, .int .i64 0, .int .i64 0, .int .i64 0] (0, 0) _ rfl ((((((HX5.out).set 0 (.int .i64 0)).set 1 (.int .i64 0)).set 2 (.int .i64 0)).set 3 (.int .i64 0)).set 4 (.int .i64 0)) Tryd.underlying52 rfl (by kernel_rfl)) rfl ?_
            exact ⟨by rw [HRR.out]; rfl, (((((HB5.out).setCell (Nat.le_refl _) _).setCell (Nat.le_refl _) _).setCell (Nat.le_refl _) _).setCell (Nat.le_refl _) _).setCell (Nat.le_refl _) _⟩
          | true =>
            have HG5 : Hid (goP ⟨j, 0, 0, 0, 0⟩ (wantsF j) r = goP s' ((wantsF j).drop (k + 1)) (r.drop (k + 1))) := Lib.hid (by rw [HG.out, HSt.out, HPut.out]; rfl)
            clear HSt HPut HG HS d0 d1 d2 d3 d4 f0 f1 f2 f3 f4
            go_wp2_with fail
            go_roundw
            case rel => exact ⟨k + 1, s', by omega, by go_num, HG5.out, HS5.out, HX5.out, HB5.out⟩
            case measure => simp [intOf]; omega
      · obtain rfl : k = m := by omega
        have HRR : Hid (parseR (x :: r) = (s, 0)) := Lib.hid (by
          rw [HR.out, HG.out, List.drop_of_length_le (by rw [HO.out]; omega)]
          rfl)
        have d0 := HX.out.cell (j := 0) rfl
        have d1 := HX.out.cell (j := 1) rfl
        have d2 := HX.out.cell (j := 2) rfl
        have d3 := HX.out.cell (j := 3) rfl
        have d4 := HX.out.cell (j := 4) rfl
        have f0 := HX.out.free 0
        have f1 := HX.out.free 1
        have f2 := HX.out.free 2
        have f3 := HX.out.free 3
        have f4 := HX.out.free 4
        have s0 := HS.out.cell (j := 0) rfl
        have s1 := HS.out.cell (j := 1) rfl
        have s2 := HS.out.cell (j := 2) rfl
        have s3 := HS.out.cell (j := 3) rfl
        have s4 := HS.out.cell (j := 4) rfl
        go_wp2_with fail
        refine bodyPost_ret (results_ct rfl _ _ w.heap.size 52 (cellsS s) (0, 0) _ rfl ((((((HX.out).set 0 (.int .i64 s.say)).set 1 (.int .i64 s.i)).set 2 (.int .i64 s.g)).set 3 (.int .i64 s.t)).set 4 (.int .i64 s.n)) Tryd.underlying52 rfl (by kernel_rfl)) rfl ?_
        exact ⟨by rw [HRR.out]; rfl, (((((HB.out).setCell (Nat.le_refl _) _).setCell (Nat.le_refl _) _).setCell (Nat.le_refl _) _).setCell (Nat.le_refl _) _).setCell (Nat.le_refl _) _⟩
end Go.Proofs.YtddmlhcjbifkoaaDoor.Verb
