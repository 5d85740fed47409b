/- The law on joined words answers true, at any words. No conditions. -/
import Derived.Test.YtddmlhcjbifkoaaDoorWords2
namespace Go.Proofs.YtddmlhcjbifkoaaDoor.Words
open Go.RowKit Go.Proofs.YtddmlhcjbifkoaaDoor.Mem Go.Proofs.YtddmlhcjbifkoaaDoorW.PrintWords
open Go.Proofs.YtddmlhcjbifkoaaDoor.PWordsJoins

theorem cell_any {A : Option Addr} {n : Nat} {xs : List ByteArray} {w : World} {i : Nat} (h : Kd.C Kd.string w A n xs) (hi : i < n) : ∃ ad x, A = some ad ∧ xs[i]? = some x ∧ ∀ wy, Below w.heap.size w wy → wy.cell? (ad.add i) = some (.string x) := by
  have hn := Kd.C_len h
  obtain ⟨x, hx⟩ : ∃ x, xs[i]? = some x := ⟨_, List.getElem?_eq_getElem (by omega)⟩
  obtain ⟨ad, hA, _⟩ := cell_str h hx
  refine ⟨ad, x, hA, hx, fun wy hb => ?_⟩
  obtain ⟨ad', hA', hc⟩ := cell_str (Kd.C_below h hb) hx
  rw [hA] at hA'
  cases hA'
  exact hc

theorem joinS_cases (l : List ByteArray) : (joinS l = (joinB l, true) ∧ splitS (joinB l) = (l, 0)) ∨ joinS l = (⟨#[]⟩, false) := by
  unfold joinS
  by_cases h : (splitS (joinB l)).2 = 0 ∧ l = (splitS (joinB l)).1
  · rw [if_pos h]
    refine Or.inl ⟨rfl, ?_⟩
    obtain ⟨h1, h2⟩ := h
    rw [Prod.ext_iff]
    exact ⟨h2.symm, h1⟩
  · rw [if_neg h]; exact Or.inr rfl

set_option maxRecDepth 100000 in
set_option maxHeartbeats 2000000 in
theorem walk_joins (A : Option Addr) (len cap : Nat) (l : List ByteArray) (w : World) (hr : Kd.C Kd.string w A len l) (hl : len ≤ cap) (_ : ∀ z ∈ l, z.size ≤ maxLen) (ht : Tab w) :
    Calls Tryd.prog 5 #[.slice A len cap] w fun e w' => e = .returned (.bool true) ∧ Below w.heap.size w w' := by
  have e0 := Kd.C_len hr
  subst e0
  have HT := Lib.hid ht; have HR := Lib.hid hr; have HCL := Lib.hid hl
  clear ht hr hl
  by_cases hbig : 20 < l.length
  · have hz : (20 : Int) < (l.length : Int) := by omega
    clear hbig
    go_enter Tryd.func5, Tryd.ntmps5
    go_wp2_with fail
    refine (awake _ HT.out).mono ?_
    rintro e w1 ⟨rfl, hb1⟩
    have HB1 := Lib.hid hb1; clear hb1
    go_wp2_with fail
    refine (awake _ (HT.out.step HB1.out)).mono ?_
    rintro e w2 ⟨rfl, hb2⟩
    have HB2 := Lib.hid hb2; clear hb2
    go_wp2_with fail
    go_ret
    exact ⟨rfl, HB1.out.trans (HB2.out.mono HB1.out.size)⟩
  · have hz : ¬ (20 : Int) < (l.length : Int) := by omega
    go_enter Tryd.func5, Tryd.ntmps5
    go_wp2_with fail
    refine (awake _ HT.out).mono ?_
    rintro e w1 ⟨rfl, hb1⟩
    have HB1 := Lib.hid hb1; clear hb1
    go_wp2_with fail
    go_loopw [3] (fun s3 wr => ∃ i : Nat, i ≤ l.length ∧ s3 = .int .i64 i ∧ (∀ x ∈ l.take i, x.size ≤ 100) ∧ w1 = wr) (fun s3 _ => l.length - (intOf s3).toNat)
    case atStart => exact ⟨0, by omega, rfl, by simp, rfl⟩
    case round =>
      obtain ⟨i, hi, rfl, hsh, rfl⟩ := hrel
      have HSH := Lib.hid hsh; clear hsh
      by_cases hlt : i < l.length
      · obtain ⟨ad, x, rfl, hx, hc⟩ := cell_any HR.out hlt
        have hcell := hc _ HB1.out
        have HX := Lib.hid hx
        clear hc hx
        by_cases h100 : (100 : Int) < (x.size : Int)
        · go_wp2_with fail
          go_ret
          exact ⟨rfl, HB1.out⟩
        · have HLE : Hid (x.size ≤ 100) := Lib.hid (by omega)
          go_wp2_with fail
          go_roundw
          case rel =>
            refine ⟨i + 1, by omega, by go_num, ?_, by first | rfl | trivial⟩
            intro y hy
            have htk : l.take (i + 1) = l.take i ++ [x] := by rw [List.take_add_one, HX.out]; rfl
            rw [htk] at hy
            rcases List.mem_append.1 hy with hy | hy
            · exact HSH.out y hy
            · rw [List.mem_singleton.1 hy]; exact HLE.out
          case measure => simp [intOf]; omega
      · have e : i = l.length := by omega
        subst e
        have HS : Hid (Short l) := Lib.hid ⟨by omega, by have := HSH.out; rwa [List.take_length] at this⟩
        clear hlt hi HSH hbig
        obtain ⟨K, hK⟩ := join_ev l HS.out
        have HK := Lib.hid hK; clear hK
        have hcs := joinS_cases l
        have HSZ := Lib.hid (joinB_size l HS.out)
        rcases hcs with ⟨h1, h2⟩ | h1
        · have H1 := Lib.hid h1; have H2 := Lib.hid h2
          rw [h1] at HK
          clear h1 h2
          go_wp2_with fail
          refine (join A cap l _ HS.out (Kd.C_below HR.out HB1.out) HCL.out (HT.out.step HB1.out)).mono ?_
          rintro e w2 ⟨rfl, hb⟩
          rw [H1.out]
          have HB2 : Hid (Below w.heap.size w w2) := Lib.hid (HB1.out.trans (hb.mono HB1.out.size))
          clear hb
          go_wp2_with fail
          refine (whilomref20_Join.calls K A cap l (joinB l) true _ (Kd.C_below HR.out HB2.out) HCL.out HK.out).mono ?_
          rintro e w3 ⟨rfl, hb⟩
          have HB3 : Hid (Below w.heap.size w w3) := Lib.hid (HB2.out.trans (hb.mono HB2.out.size))
          clear hb
          go_wp2_with fail
          refine (split (joinB l) _ (by have := HSZ.out; omega) (HT.out.step HB3.out)).mono ?_
          rintro e w4 ⟨A4, c4, rfl, hc4, hC4, hb⟩
          rw [H2.out] at hc4 hC4
          rw [H2.out]
          have HB4 : Hid (Below w.heap.size w w4) := Lib.hid (HB3.out.trans (hb.mono HB3.out.size))
          have HC4 := Lib.hid hC4
          have HL4 := Lib.hid (Kd.C_below HR.out HB4.out)
          have HCC := Lib.hid hc4
          obtain ⟨K2, hK2⟩ := same_strs l (by have := HS.out.1; omega)
          have HK2 := Lib.hid hK2
          clear hb hC4 hc4 hK2
          go_wp2_with fail
          refine (whilomref20_Same.calls K2 A4 c4 l A cap l true _ HC4.out HCC.out HL4.out HCL.out HK2.out).mono ?_
          rintro e w5 ⟨rfl, hd⟩
          have HB5 : Hid (Below w.heap.size w w5) := Lib.hid (HB4.out.trans (hd.below.mono HB4.out.size))
          clear hd
          go_wp2_with fail
          go_ret
          exact ⟨rfl, HB5.out⟩
        · have H1 := Lib.hid h1
          rw [h1] at HK
          clear h1
          go_wp2_with fail
          refine (join A cap l _ HS.out (Kd.C_below HR.out HB1.out) HCL.out (HT.out.step HB1.out)).mono ?_
          rintro e w2 ⟨rfl, hb⟩
          rw [H1.out]
          have HB2 : Hid (Below w.heap.size w w2) := Lib.hid (HB1.out.trans (hb.mono HB1.out.size))
          clear hb
          go_wp2_with fail
          refine (whilomref20_Join.calls K A cap l ⟨#[]⟩ false _ (Kd.C_below HR.out HB2.out) HCL.out HK.out).mono ?_
          rintro e w3 ⟨rfl, hb⟩
          have HB3 : Hid (Below w.heap.size w w3) := Lib.hid (HB2.out.trans (hb.mono HB2.out.size))
          clear hb
          go_wp2_with fail
          refine (split ⟨#[]⟩ _ (by decide) (HT.out.step HB3.out)).mono ?_
          rintro e w4 ⟨A4, c4, rfl, hc4, hC4, hb⟩
          have HB4 : Hid (Below w.heap.size w w4) := Lib.hid (HB3.out.trans (hb.mono HB3.out.size))
          clear hb hC4 hc4
          go_wp2_with fail
          go_ret
          exact ⟨rfl, HB4.out⟩
end Go.Proofs.YtddmlhcjbifkoaaDoor.Words
