/- The law on a pile's lists answers true, at any lists. No conditions. -/
import Derived.Test.YtfkbijkmdnieiaaPileAwake
import Derived.Test.YtfkbijkmdnieiaaXor
import Derived.Test.YtfkbijkmdnieiaaPPileListsx1
namespace Go.Proofs.Ytfkbijkmdnieiaa.PileLists
open Go.RowKit Go.Proofs.Ytfkbijkmdnieiaa.Mem Go.Proofs.Ytfkbijkmdnieiaa.Ring Go.Proofs.Ytfkbijkmdnieiaa.PileInt Go.Proofs.YtfkbijkmdnieiaaW.PrintWords
open Go.Proofs.Ytfkbijkmdnieiaa.PPileLists

/-- What is left of many pushes. -/
def pushAll (L : Nat) (vs xs : List Int) : List Int := xs.foldl (fun a v => (pushed L a v).1) vs
theorem pushAll_snoc (L : Nat) (vs xs : List Int) (x : Int) : (pushed L (pushAll L vs xs) x).1 = pushAll L vs (xs ++ [x]) := by simp [pushAll]

theorem pushed_mem {L : Nat} {vs : List Int} {v z : Int} (h : z ∈ (pushed L vs v).1) : z ∈ vs ∨ z = v := by
  unfold pushed at h
  split at h
  · exact Or.inl h
  · split at h
    · simp at h
      rcases h with h | h
      · exact Or.inl (List.mem_of_mem_tail h)
      · exact Or.inr h
    · simpa using h
theorem pushAll_mem {L : Nat} : ∀ {xs vs : List Int} {z : Int}, z ∈ pushAll L vs xs → z ∈ vs ∨ z ∈ xs := by
  intro xs
  induction xs with
  | nil => intro vs z h; exact Or.inl h
  | cons x xs ih =>
    intro vs z h
    rcases ih (vs := (pushed L vs x).1) h with h | h
    · rcases pushed_mem h with h | h
      · exact Or.inl h
      · exact Or.inr (by simp [h])
    · exact Or.inr (by simp [h])
theorem pushAll_len {L : Nat} : ∀ {xs vs : List Int}, vs.length ≤ L → (pushAll L vs xs).length ≤ L := by
  intro xs
  induction xs with
  | nil => intro vs h; exact h
  | cons x xs ih => intro vs h; exact ih (vs := (pushed L vs x).1) (pushed_len L vs x h)

def flip (z : Int) : Int := Go.bits .xor .i64 z 1
/-- A list the first i of which are flipped. -/
def half (i : Nat) (xs : List Int) : List Int := (xs.take i).map flip ++ xs.drop i
theorem half_len (i : Nat) (xs : List Int) : (half i xs).length = xs.length := by simp [half]; omega
theorem half_zero (xs : List Int) : half 0 xs = xs := by simp [half]
theorem half_all (xs : List Int) : half xs.length xs = xs.map flip := by simp [half]
theorem half_at {i : Nat} {xs : List Int} (h : i < xs.length) : rdOf 0 (half i xs) (i : Int) = xs[i] := by
  unfold rdOf half
  rw [Int.toNat_natCast, List.getD, List.getElem?_append_right (by simp; omega)]
  simp [Nat.min_eq_left (Nat.le_of_lt h), h]
theorem half_set {i : Nat} {xs : List Int} (h : i < xs.length) : (half i xs).set i (flip xs[i]) = half (i + 1) xs := by
  unfold half
  rw [List.set_append_right _ _ (by simp; omega), List.take_succ_eq_append_getElem h, List.map_append, List.drop_eq_getElem_cons h]
  simp only [List.length_map, List.length_take, Nat.min_eq_left (Nat.le_of_lt h), Nat.sub_self, List.set_cons_zero, List.map_cons, List.map_nil, List.append_assoc, List.singleton_append]

theorem same_ints (l : List Int) (hl : l.length ≤ 1000000) : ∃ K, whilomref01_Ints.f K l l = some true := by
  have up : ∀ i : Nat, i ≤ 1000000 → wrap64 ((i : Int) + 1) = ((i + 1 : Nat) : Int) := fun i h => by unfold wrap64; omega
  have go : ∀ (d i : Nat), i + d = l.length → whilomref01_Ints.l0 (d + 1) l l (i : Int) = some true := by
    intro d
    induction d with
    | zero =>
      intro i hi
      simp only [whilomref01_Ints.l0]
      rw [if_neg (by omega)]
    | succ d ih =>
      intro i hi
      rw [whilomref01_Ints.l0, if_pos (by omega), if_pos (by omega), if_pos (by omega), if_pos rfl, up i (by omega)]
      exact ih (i + 1) (by omega)
  refine ⟨l.length + 1, ?_⟩
  unfold whilomref01_Ints.f
  rw [if_pos rfl]
  exact go l.length 0 (by omega)

theorem rd_eq {xs : List Int} {i : Nat} (h : i < xs.length) : rd xs (i : Int) = xs[i] := by simp [rd, List.getD, h]

abbrev Row (w : World) (base : Nat) (A : Option Addr) (c : Nat) (xs : List Int) : Prop := Own w base (.slice A xs.length c) xs

theorem row_chg {w w' : World} {base c : Nat} {A : Option Addr} {xs : List Int} {S : Nat → Prop} (h : Row w base A c xs) (hc : Chg S w w') (hs : ∀ k, base ≤ k → ¬ S k) : Row w' base A c xs :=
  Kd.R_step h (fun k hk hlt => hc.block k hlt (hs k hk))
theorem row_below {w w' : World} {base c : Nat} {A : Option Addr} {xs : List Int} (h : Row w base A c xs) (hc : Below w.heap.size w w') : Row w' base A c xs :=
  row_chg h (Chg.of_below (S := fun _ => False) hc) (by simp)

/-- An element of a row that is flipped. -/
theorem row_flip {w : World} {base c i : Nat} {A : Option Addr} {xs : List Int} (h : Own w base (.slice A xs.length c) (half i xs)) (hi : i < xs.length) :
    ∃ g, A = some ⟨g, 0, none⟩ ∧ base ≤ g ∧ g < w.heap.size ∧ w.cell? ⟨g, i, none⟩ = some (.int .i64 xs[i]) ∧ w.frozen? ⟨g, i, none⟩ = false ∧
      Own (w.setCell ⟨g, i, none⟩ (.int .i64 (flip xs[i]))) base (.slice A xs.length c) (half (i + 1) xs) := by
  rw [← half_len i xs] at h
  obtain ⟨g, cap, hv, h1, h2, _⟩ := Kd.R_form h (by rw [half_len]; omega)
  injection hv with hA _ hcap
  subst hA; subst hcap
  have hcell := Kd.R_cell 0 h i (by omega) (by rw [half_len]; omega)
  rw [half_at hi, Int.toNat_natCast] at hcell
  have hput := (Kd.R_put h i (flip xs[i])).1
  rw [Int.toNat_natCast, half_set hi, half_len] at hput
  exact ⟨g, rfl, h1, h2, hcell.1, hcell.2, hput⟩

theorem flip_flip {zs : List Int} (h : ∀ z ∈ zs, Arith.In z) : (zs.map flip).map flip = zs := by
  rw [List.map_map]
  have : ∀ z ∈ zs, (flip ∘ flip) z = z := fun z hz => Arith.xor_back (h z hz)
  rw [List.map_congr_left this, List.map_id']

set_option maxRecDepth 100000 in
set_option maxHeartbeats 2000000 in
theorem walk_long (A0 A1 : Option Addr) (len0 cap0 len1 cap1 : Nat) (w : World) (hbig : 40 < len0 ∨ (len0 ≤ 40 ∧ 40 < len1)) :
    Calls Try.prog 11 #[.slice A0 len0 cap0, .slice A1 len1 cap1] w fun e w' => e = .returned (.bool true) ∧ Below w.heap.size w w' := by
  rcases hbig with h | ⟨h0, h⟩
  all_goals
    go_enter Try.func11, Try.ntmps11
    go_wp2_with fail
    refine (awake _).mono ?_
    rintro e w1 ⟨rfl, hb1⟩
    have HB1 := Lib.hid hb1; clear hb1
    go_wp2_with fail
    refine (awake _).mono ?_
    rintro e w2 ⟨rfl, hb2⟩
    have HB2 := Lib.hid hb2; clear hb2
    go_wp2_with fail
    go_ret
    exact ⟨rfl, HB1.out.trans (HB2.out.mono HB1.out.size)⟩

set_option maxRecDepth 100000 in
set_option maxHeartbeats 4000000 in
theorem walk_short (A0 A1 : Option Addr) (cap0 cap1 : Nat) (xs ys : List Int) (w : World) (hr0 : Kd.C (Kd.int .i64) w A0 xs.length xs) (hr1 : Kd.C (Kd.int .i64) w A1 ys.length ys)
    (hw0 : ∀ z ∈ xs, (Lit.int .i64 z).wf = true) (hl0 : xs.length ≤ 40) (hl1 : ys.length ≤ 40) :
    Calls Try.prog 11 #[.slice A0 xs.length cap0, .slice A1 ys.length cap1] w fun e w' => e = .returned (.bool true) ∧ Below w.heap.size w w' := by
  have HC0 := Lib.hid hr0; have HC1 := Lib.hid hr1; clear hr0 hr1
  have HW := Lib.hid hw0; clear hw0
  go_enter Try.func11, Try.ntmps11
  go_wp2_with fail
  refine (awake _).mono ?_
  rintro e w1 ⟨rfl, hb1⟩
  have HB1 := Lib.hid hb1; clear hb1
  go_wp2_with fail
  refine (new 9 _).mono ?_
  rintro e w2 ⟨B, R, rfl, hp, hc, hB, hR⟩
  have HBp : Hid (Below w.heap.size w w2) := hc.onto HB1.out (Nat.le_refl _) (by simp)
  have hs1 := HB1.out.size
  have HP2 := Lib.hid hp
  have HN : Hid (∀ k, k < w.heap.size → ¬ (k = B ∨ k = R)) := by intro k hk; omega
  clear hp hc hs1 hB hR
  go_wp2_with fail
  go_loopw [6] (fun k wr => ∃ (i f : Nat), i ≤ xs.length ∧ k = .int .i64 i ∧ P wr B R 9 f (pushAll 9 [] (xs.take i)) ∧ Below w.heap.size w wr) (fun k _ => xs.length - (intOf k).toNat)
  case atStart => exact ⟨0, 0, by omega, rfl, HP2.out, HBp.out⟩
  case round =>
    clear HP2 HBp
    obtain ⟨i, f, hi, rfl, hp, hb⟩ := hrel
    have HP := Lib.hid hp; have HB := Lib.hid hb
    clear hp hb
    by_cases hlt : i < xs.length
    · obtain ⟨ad, rfl, hcell⟩ := Kd.at_int (Kd.C_below HC0.out HB.out) i (by omega) (by omega)
      rw [Int.toNat_natCast] at hcell
      go_wp2_with fail
      refine (push B R 9 f _ _ _ HP.out).mono ?_
      rintro e w4 ⟨rfl, ⟨f', hp⟩, hc⟩
      have HB4 : Hid (Below w.heap.size w w4) := hc.onto HB.out (Nat.le_refl _) HN.out
      have HP4 : Hid (P w4 B R 9 f' (pushAll 9 [] (xs.take (i + 1)))) := by
        rw [pushAll_snoc, rd_eq hlt, List.take_append_getElem] at hp; exact hp
      clear hp hc HP HB
      go_wp2
      go_roundw
      case rel => exact ⟨i + 1, f', by omega, by go_num, HP4.out, HB4.out⟩
      case measure => simp [intOf]; omega
    · have e : i = xs.length := by omega
      subst e
      rw [List.take_length] at HP
      clear hlt hi
      generalize hzs : pushAll 9 [] xs = zs at *
      have HZ := Lib.hid hzs; clear hzs
      go_wp2_with fail
      refine (list B R 9 f _ _ HP.out).mono ?_
      rintro e w5 ⟨v, rfl, hown, hb⟩
      have HP5 : Hid (P w5 B R 9 f zs) := HP.out.keep (Chg.of_below (S := fun _ => False) hb) (by simp) (by simp)
      have HB5 : Hid (Below w.heap.size w w5) := HB.out.trans (hb.mono HB.out.size)
      have hlB := HP.out.ltB
      have hlR := HP.out.ltR
      have hzl := HP.out.le
      obtain ⟨A, c, rfl, hcl, hC⟩ := Kd.R_reads hown
      obtain ⟨base, hbase⟩ : ∃ b, b = wr.heap.size := ⟨_, rfl⟩
      rw [← hbase] at hown hlB hlR
      have hb5 : base ≤ w5.heap.size := by rw [hbase]; exact hb.size
      have HBASE : Hid (w.heap.size ≤ base) := by have := HB.out.size; rw [hbase]; exact this
      have HO := Lib.hid hown; have HCl := Lib.hid hC
      clear hown hC hb HP HB hbase
      go_wp2_with (first
        | (refine gate_dst (N := 41) rfl ?_; refine Kd.R_lit (Kd.int .i64) w5.heap.size 3 ?_ (N := 41) ?_ (xs := ([] : List Int)) (inner := []) (ok := fun k => w5.heap.size ≤ k) (okp := fun _ => False) ?_ ?_ (fun _ hk => hk.elim) (Nat.le_refl _) (Below.refl _ _) (Nat.le_refl _) (by simp) ?_; rfl; rfl; (next => first | (go_simp; done) | (go_simp; rfl)); exact Reps.none _ _; intro ve we hE hbE _ _; have HCl2 := Lib.hid (Kd.C_below HCl.out hbE))
        | (refine gate_dst (N := 43) rfl ?_; refine Kd.R_append_row (Value.int .i64) 0 (w0 := w5) w5.heap.size ?_ (.tmp 41) (.tmp 42) 29 3 (.int .i64 0) 8 ?_ Try.underlying29 PileInt.info3 rfl (by decide) _ [] zs A zs.length c (fun k => w5.heap.size ≤ k) rfl rfl ?_ hE HCl2.out hbE hbE.size ?_ ?_; rfl; rfl; exact (fun k hk => Nat.le_trans hbE.size hk); (simp; omega); intro v6 w6 hR6 hB6 _ _))
      have HR6 := Lib.hid hR6
      have HB6 : Hid (Below w5.heap.size w5 w6) := hB6
      obtain ⟨A', c', rfl, hcl', _⟩ := Kd.R_reads hR6
      have HO6 : Hid (Own w6 base (.slice A zs.length c) zs) := Kd.R_step HO.out (fun k _ hk => HB6.out.block k hk)
      have HP6 : Hid (P w6 B R 9 f zs) := HP5.out.keep (Chg.of_below (S := fun _ => False) HB6.out) (by simp) (by simp)
      have HBw6 : Hid (Below w.heap.size w w6) := HB5.out.trans (HB6.out.mono HB5.out.size)
      simp only [List.nil_append] at hcl' HR6
      obtain ⟨base2, hbase2⟩ : ∃ b, b = w5.heap.size := ⟨_, rfl⟩
      rw [← hbase2] at HR6 hb5
      have hbase2w : base2 ≤ w6.heap.size := by rw [hbase2]; exact HB6.out.size
      have hlt2 : ∀ k, (Value.slice A zs.length c).ownBlock = some k → k < base2 := by rw [hbase2]; exact Kd.R_lt HO.out
      have HLT2 := Lib.hid hlt2
      clear hR6 hB6 HO HCl HCl2 hE hbE HP5 HB5 HB6 hbase2 hlt2
      rw [List.nil_append]
      have hin : ∀ z ∈ zs, Arith.In z := by
        intro z hz
        rw [← HZ.out] at hz
        rcases pushAll_mem hz with h | h
        · simp at h
        · exact bounds_i64 (HW.out z h)
      have HIN := Lib.hid hin
      clear hin HW HZ
      go_wp2_with fail
      go_loopw [9] (fun k wr => ∃ (i f : Nat) (ms : List Int), i ≤ ys.length ∧ k = .int .i64 i ∧ P wr B R 9 f ms ∧ Row wr base A c zs ∧ Row wr base2 A' c' zs ∧ Below w.heap.size w wr) (fun k _ => ys.length - (intOf k).toNat)
      case atStart => exact ⟨0, f, zs, by omega, rfl, HP6.out, HO6.out, HR6.out, HBw6.out⟩
      case round =>
        clear HP6 HO6 HR6 HBw6
        obtain ⟨i, f, ms, hi, rfl, hp, hl, hw, hb⟩ := hrel
        have HP := Lib.hid hp; have HL := Lib.hid hl; have HWAS := Lib.hid hw; have HB := Lib.hid hb
        clear hp hl hw hb
        by_cases hlt : i < ys.length
        · obtain ⟨ad, rfl, hcell⟩ := Kd.at_int (Kd.C_below HC1.out HB.out) i (by omega) (by omega)
          rw [Int.toNat_natCast] at hcell
          go_wp2_with fail
          refine (push B R 9 f _ _ _ HP.out).mono ?_
          rintro e w4 ⟨rfl, ⟨f', hp⟩, hc⟩
          have HB4 : Hid (Below w.heap.size w w4) := hc.onto HB.out (Nat.le_refl _) HN.out
          have HL4 : Hid (Row w4 base A c zs) := row_chg HL.out hc (by intro k hk; omega)
          have HW4 : Hid (Row w4 base2 A' c' zs) := row_chg HWAS.out hc (by intro k hk; omega)
          have HP4 := Lib.hid hp
          clear hp hc HP HB HL HWAS
          go_wp2
          go_roundw
          case rel => exact ⟨i + 1, f', _, by omega, by go_num, HP4.out, HL4.out, HW4.out, HB4.out⟩
          case measure => simp [intOf]; omega
        · clear hi
          go_wp2_with fail
          refine (list B R 9 f _ _ HP.out).mono ?_
          rintro e w7 ⟨v7, rfl, hown, hb⟩
          have hml := HP.out.le
          have HP7 : Hid (P w7 B R 9 f ms) := HP.out.keep (Chg.of_below (S := fun _ => False) hb) (by simp) (by simp)
          have HB7 : Hid (Below w.heap.size w w7) := HB.out.trans (hb.mono HB.out.size)
          have HL7 : Hid (Row w7 base A c zs) := row_below HL.out hb
          have HW7 : Hid (Row w7 base2 A' c' zs) := row_below HWAS.out hb
          obtain ⟨A3, c3, rfl, hcl3, _⟩ := Kd.R_reads hown
          obtain ⟨base3, hbase3⟩ : ∃ b, b = wr.heap.size := ⟨_, rfl⟩
          have hb37 : base3 ≤ w7.heap.size := by rw [hbase3]; exact hb.size
          have hlt3 : ∀ k, (Value.slice A zs.length c).ownBlock = some k → k < base3 := by rw [hbase3]; exact Kd.R_lt HL.out
          rw [← hbase3] at hown
          have HM7 : Hid (Row w7 base3 A3 c3 ms) := hown
          have HLT3 := Lib.hid hlt3
          clear hown hb HP HB HL HWAS hbase3 hlt3
          go_wp2_with fail
          go_loopw [11] (fun k wr => ∃ i : Nat, i ≤ zs.length ∧ k = .int .i64 i ∧ P wr B R 9 f ms ∧ Own wr base (.slice A zs.length c) (half i zs) ∧ Row wr base2 A' c' zs ∧ Row wr base3 A3 c3 ms ∧ base3 ≤ wr.heap.size ∧ Below w.heap.size w wr) (fun k _ => zs.length - (intOf k).toNat)
          case atStart => exact ⟨0, by omega, rfl, HP7.out, by rw [half_zero]; exact HL7.out, HW7.out, HM7.out, hb37, HB7.out⟩
          case round =>
            clear HP7 HL7 HW7 HM7 HB7 hb37
            obtain ⟨i, hi, rfl, hp, hl, hw, hm, hsz, hb⟩ := hrel
            have HP := Lib.hid hp; have HL := Lib.hid hl; have HWAS := Lib.hid hw; have HM := Lib.hid hm; have HB := Lib.hid hb
            clear hp hl hw hm hb
            by_cases hlt : i < zs.length
            · obtain ⟨g, rfl, hg1, hg2, hcell, hfree, hput⟩ := row_flip HL.out hlt
              have hg3 := HLT2.out g rfl
              have hg4 := HLT3.out g rfl
              have HCH := Lib.hid (Chg.set (S := fun k => k = g) (p := ⟨g, i, none⟩) (Chg.refl _ wr) (fun _ => rfl) (.int .i64 (flip zs[i])))
              have HPUT := Lib.hid hput; clear hput
              have hlB' : B ≠ g ∧ R ≠ g := by omega
              go_wp2
              go_roundw
              case rel =>
                refine ⟨i + 1, by omega, by go_num, HP.out.keep HCH.out (by omega) (by omega), HPUT.out, row_chg HWAS.out HCH.out (by intro k hk; omega), row_chg HM.out HCH.out (by intro k hk; omega), ?_, ?_⟩
                · exact Nat.le_trans hsz HCH.out.size
                · exact HCH.out.onto HB.out (Nat.le_refl _) (by intro k hk; have := HBASE.out; omega)
              case measure => simp [intOf]; omega
            · have e : i = zs.length := by omega
              subst e
              rw [half_all] at HL
              go_wp2_with fail
              refine (list B R 9 f _ _ HP.out).mono ?_
              rintro e w8 ⟨v8, rfl, hown, hb⟩
              have HP8 : Hid (P w8 B R 9 f ms) := HP.out.keep (Chg.of_below (S := fun _ => False) hb) (by simp) (by simp)
              have HB8 : Hid (Below w.heap.size w w8) := HB.out.trans (hb.mono HB.out.size)
              have HL8 : Hid (Own w8 base (.slice A zs.length c) (zs.map flip)) := Kd.R_step HL.out (fun k _ hk => hb.block k hk)
              have HW8 : Hid (Row w8 base2 A' c' zs) := row_below HWAS.out hb
              have HM8 : Hid (Row w8 base3 A3 c3 ms) := row_below HM.out hb
              obtain ⟨A4, c4, rfl, hcl4, hC4⟩ := Kd.R_reads hown
              obtain ⟨K1, hK1⟩ := same_ints ms (by omega)
              have hC3 := (Kd.R_reads' HM8.out).2.2
              have hsz8 : base3 ≤ w8.heap.size := Nat.le_trans hsz hb.size
              have HC3 := Lib.hid hC3; have HC4 := Lib.hid hC4
              have HK1 := Lib.hid hK1
              clear hown hb hC3 hC4 hK1 HP HB HL HWAS HM hsz
              go_wp2_with fail
              refine (whilomref01_Ints.calls K1 A3 c3 ms A4 c4 ms true _ HC3.out hcl3 HC4.out hcl4 HK1.out).mono ?_
              rintro e w9 ⟨rfl, hd⟩
              have hb := hd.below
              have HB9 : Hid (Below w.heap.size w w9) := HB8.out.trans (hb.mono HB8.out.size)
              have HL9 : Hid (Own w9 base (.slice A zs.length c) (zs.map flip)) := Kd.R_step HL8.out (fun k _ hk => hb.block k hk)
              have HW9 : Hid (Row w9 base2 A' c' zs) := row_below HW8.out hb
              clear hd hb HP8 HB8 HL8 HW8 HM8 HC3 HC4 HK1 hsz8
              obtain ⟨qs, hqs⟩ : ∃ qs, zs.map flip = qs := ⟨_, rfl⟩
              have HQL := Lib.hid (show qs.length = zs.length by rw [← hqs]; simp)
              have HQF : Hid (qs.map flip = zs) := by rw [← hqs]; exact flip_flip HIN.out
              rw [hqs, ← HQL.out] at HL9
              clear hqs HIN
              go_wp2_with fail
              go_loopw [12] (fun k wr => ∃ i : Nat, i ≤ zs.length ∧ k = .int .i64 i ∧ Own wr base (.slice A qs.length c) (half i qs) ∧ Row wr base2 A' c' zs ∧ Below w.heap.size w wr) (fun k _ => zs.length - (intOf k).toNat)
              case atStart => exact ⟨0, by omega, rfl, by rw [half_zero]; exact HL9.out, HW9.out, HB9.out⟩
              case round =>
                clear HL9 HW9 HB9
                obtain ⟨i, hi, rfl, hl, hw, hb⟩ := hrel
                have HL := Lib.hid hl; have HWAS := Lib.hid hw; have HB := Lib.hid hb
                clear hl hw hb
                by_cases hlt : i < zs.length
                · obtain ⟨g, rfl, hg1, hg2, hcell, hfree, hput⟩ := row_flip HL.out (by rw [HQL.out]; exact hlt)
                  generalize hq : qs[i]'(by rw [HQL.out]; exact hlt) = q at *
                  have hg3 := HLT2.out g rfl
                  have HCH := Lib.hid (Chg.set (S := fun k => k = g) (p := ⟨g, i, none⟩) (Chg.refl _ wr) (fun _ => rfl) (.int .i64 (flip q)))
                  have HPUT := Lib.hid hput; clear hput hq
                  go_wp2
                  go_roundw
                  case rel =>
                    refine ⟨i + 1, by omega, by go_num, HPUT.out, row_chg HWAS.out HCH.out (by intro k hk; omega), ?_⟩
                    exact HCH.out.onto HB.out (Nat.le_refl _) (by intro k hk; have := HBASE.out; omega)
                  case measure => simp [intOf]; omega
                · have e : i = zs.length := by omega
                  subst e
                  rw [← HQL.out, half_all, HQF.out, HQL.out] at HL
                  have HC5 := Lib.hid (Kd.R_reads' HL.out).2.2
                  have HC6 := Lib.hid (Kd.R_reads' HWAS.out).2.2
                  have hzl : zs.length ≤ 9 := by assumption
                  obtain ⟨K2, hK2⟩ := same_ints zs (by omega)
                  have HK2 := Lib.hid hK2; clear hK2
                  go_wp2_with fail
                  refine (whilomref01_Ints.calls K2 A c zs A' c' zs true _ HC5.out hcl HC6.out hcl' HK2.out).mono ?_
                  rintro e w10 ⟨rfl, hd⟩
                  have HBx : Hid (Below w.heap.size w w10) := HB.out.trans (hd.below.mono HB.out.size)
                  clear hd
                  go_wp2_with fail
                  go_ret
                  exact ⟨rfl, HBx.out⟩

theorem walk (A0 : Option Addr) (len0 cap0 : Nat) (xs : List Int) (A1 : Option Addr) (len1 cap1 : Nat) (ys : List Int) (w : World)
    (hr0 : Kd.C (Kd.int .i64) w A0 len0 xs) (_ : len0 ≤ cap0) (hw0 : ∀ z ∈ xs, (Lit.int .i64 z).wf = true) (hr1 : Kd.C (Kd.int .i64) w A1 len1 ys) (_ : len1 ≤ cap1) (_ : ∀ z ∈ ys, (Lit.int .i64 z).wf = true) :
    Calls Try.prog 11 #[.slice A0 len0 cap0, .slice A1 len1 cap1] w fun e w' => e = .returned (.bool true) ∧ Below w.heap.size w w' := by
  by_cases hbig : 40 < len0 ∨ (len0 ≤ 40 ∧ 40 < len1)
  · exact walk_long A0 A1 len0 cap0 len1 cap1 w hbig
  · have e0 := Kd.C_len hr0
    have e1 := Kd.C_len hr1
    subst e0; subst e1
    exact walk_short A0 A1 cap0 cap1 xs ys w hr0 hr1 hw0 (by omega) (by omega)
end Go.Proofs.Ytfkbijkmdnieiaa.PileLists
