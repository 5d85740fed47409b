/- The law on a pile of items answers true, at any limit and any items. No conditions. -/
import Derived.Test.YtfkbijkmdnieiaaPileItem3
import Derived.Test.YtfkbijkmdnieiaaPileAwake
namespace Go.Proofs.Ytfkbijkmdnieiaa.PileItems
open Go.RowKit Go.Proofs.Ytfkbijkmdnieiaa.Mem Go.Proofs.Ytfkbijkmdnieiaa.Ring Go.Proofs.Ytfkbijkmdnieiaa.PileItem Go.Proofs.Ytfkbijkmdnieiaa.PPileItems Go.Proofs.YtfkbijkmdnieiaaW.PrintWords

/-- Push, whatever the pile holds: what is left. -/
theorem push (B R L f : Nat) (vs : List S46) (v : S46) (w : World) (h : P w B R L f vs) :
    Calls Try.prog 38 #[.pointer (some ⟨B, 0, none⟩), agg v] w fun e w' => ∃ u b, e = .returned (.tuple #[agg u, .bool b]) ∧ (∃ f', P w' B R L f' (pushed L vs v).1) ∧ Chg (fun k => k = B ∨ k = R) w w' := by
  unfold pushed
  by_cases h0 : L = 0
  · subst h0
    refine (push_zero B R f vs v w h).mono ?_
    rintro e w' ⟨rfl, hp, hc⟩
    exact ⟨_, _, rfl, ⟨f, hp⟩, hc⟩
  · rw [if_neg h0]
    by_cases hn : vs.length = L
    · rw [if_pos hn]
      obtain ⟨u, hu⟩ : ∃ u, vs.head? = some u := by cases vs <;> simp_all
      refine (push_full B R L f vs v u w h hn hu).mono ?_
      rintro e w' ⟨rfl, hp, hc⟩
      exact ⟨_, _, rfl, ⟨_, hp⟩, hc⟩
    · rw [if_neg hn]
      refine (push_room B R L f vs v w h (by have := h.le; omega)).mono ?_
      rintro e w' ⟨rfl, hp, hc⟩
      exact ⟨_, _, rfl, ⟨_, hp⟩, hc⟩

/-- What many pushes leave: the last ones. -/
theorem pushed_last {α : Type} (L : Nat) (xs : List α) (x : α) : (pushed L (xs.drop (xs.length - L)) x).1 = (xs ++ [x]).drop ((xs ++ [x]).length - L) := by
  unfold pushed
  by_cases h0 : L = 0
  · subst h0
    rw [if_pos rfl]; simp
  · rw [if_neg h0]
    by_cases hn : (xs.drop (xs.length - L)).length = L
    · rw [if_pos hn]
      have : L ≤ xs.length := by simp at hn; omega
      simp only [List.length_append, List.length_singleton, List.tail_drop]
      rw [List.drop_append_of_le_length (by omega)]
      congr 2; omega
    · rw [if_neg hn]
      have : xs.length < L := by simp at hn; omega
      have e1 : xs.length - L = 0 := by omega
      have e2 : (xs ++ [x]).length - L = 0 := by simp; omega
      rw [e1, e2]; simp

theorem same_items (l : List S46) (hl : l.length ≤ 1000000) : ∃ K, whilomref02_Same.f K l l = some true := by
  have up : ∀ i : Nat, i ≤ 1000000 → wrap64 ((i : Int) + 1) = ((i + 1 : Nat) : Int) := fun i h => by unfold wrap64; omega
  have go : ∀ (d i : Nat), i + d = l.length → whilomref02_Same.l0 (d + 1) l l (i : Int) = some true := by
    intro d
    induction d with
    | zero =>
      intro i hi
      simp only [whilomref02_Same.l0]
      rw [if_neg (by omega)]
    | succ d ih =>
      intro i hi
      rw [whilomref02_Same.l0, if_pos (by omega), if_pos (by omega), if_pos (by omega)]
      simp only [up i (by omega)]
      first
        | (rw [if_pos rfl]; exact ih (i + 1) (by omega))
        | (rw [if_pos rfl, if_pos rfl]; exact ih (i + 1) (by omega))
        | (simp; exact ih (i + 1) (by omega))
  refine ⟨l.length + 1, ?_⟩
  unfold whilomref02_Same.f
  rw [if_pos rfl]
  exact go l.length 0 (by omega)

set_option maxRecDepth 100000 in
set_option maxHeartbeats 2000000 in
theorem walk_long (l : Int) (A : Option Addr) (len cap : Nat) (w : World) (hbig : 60 < len) :
    Calls Try.prog 10 #[.int .u8 l, .slice A len cap] w fun e w' => e = .returned (.bool true) ∧ Below w.heap.size w w' := by
  go_enter Try.func10, Try.ntmps10
  go_wp2_with fail
  refine (PileInt.awake _).mono ?_
  rintro e w1 ⟨rfl, hb1⟩
  have HB1 := Lib.hid hb1; clear hb1
  go_wp2_with fail
  refine (PileInt.awake _).mono ?_
  rintro e w2 ⟨rfl, hb2⟩
  have HB2 := Lib.hid hb2; clear hb2
  go_wp2_with fail
  go_ret
  exact ⟨rfl, HB1.out.trans (HB2.out.mono HB1.out.size)⟩

set_option maxRecDepth 100000 in
set_option maxHeartbeats 4000000 in
theorem walk_short (l : Nat) (A : Option Addr) (cap : Nat) (xs : List S46) (w : World) (hr : k46.C w A xs.length xs) (hcap : xs.length ≤ cap) (hl : xs.length ≤ 60) (hu : l ≤ 255) :
    Calls Try.prog 10 #[.int .u8 l, .slice A xs.length cap] w fun e w' => e = .returned (.bool true) ∧ Below w.heap.size w w' := by
  have HC := Lib.hid hr; clear hr
  obtain ⟨n, hn⟩ : ∃ n, xs.length = n := ⟨_, rfl⟩
  obtain ⟨L, hL⟩ : ∃ L, l % 40 = L := ⟨_, rfl⟩
  obtain ⟨k, hk⟩ : ∃ k, min L n = k := ⟨_, rfl⟩
  obtain ⟨m, hm⟩ : ∃ m, n = m + k := ⟨n - k, by omega⟩
  have hmw : IntKind.i64.wrap ((n : Int) - k) = (m : Int) := by rw [show ((n : Int) - k) = m by omega]; exact IntWalk.i64_in _ (by omega)
  have HE := Lib.hid (show n - L = m by omega)
  have HK := Lib.hid hk; have HM := Lib.hid hm; clear hk hm
  rw [hn] at HC hcap hl ⊢
  have HN' := Lib.hid hn; clear hn
  have hL4 : L < 40 := by omega
  have HL := Lib.hid hL; clear hL
  go_enter Try.func10, Try.ntmps10
  go_wp2_with fail
  refine (PileInt.awake _).mono ?_
  rintro e w1 ⟨rfl, hb1⟩
  have HB1 := Lib.hid hb1; clear hb1
  go_wp2_with fail
  have em : (l : Int) % 40 = (L : Int) := by have := HL.out; omega
  rw [em]
  clear em
  refine (new L _ (by omega)).mono ?_
  rintro e w2 ⟨B, R, rfl, hp, hc, hB, hR⟩
  have hs1 := HB1.out.size
  have HB2 : Hid (Below w.heap.size w w2) := hc.onto HB1.out (Nat.le_refl _) (by simp)
  have HP2 := Lib.hid hp
  have HN : Hid (∀ k, k < w.heap.size → ¬ (k = B ∨ k = R)) := by intro k hk; omega
  clear hp hc hB hR hs1 HB1 w1
  go_wp2_with fail
  go_loopw [7] (fun k wr => ∃ (i f : Nat), i ≤ n ∧ k = .int .i64 i ∧ P wr B R L f ((xs.take i).drop ((xs.take i).length - L)) ∧ Below w.heap.size w wr) (fun k _ => n - (intOf k).toNat)
  case atStart => exact ⟨0, 0, by omega, rfl, by simpa using HP2.out, HB2.out⟩
  case round =>
    obtain ⟨i, f, hi, rfl, hp, hb⟩ := hrel
    have HP := Lib.hid hp; have HB := Lib.hid hb
    clear hp hb
    by_cases hlt : i < n
    · obtain ⟨ad, rfl, hx0, hx1⟩ := at_T46 (Kd.C_below HC.out HB.out) i (by omega) (by omega)
      rw [Int.toNat_natCast] at hx0 hx1
      have hlt' : i < xs.length := by rw [HN'.out]; exact hlt
      have erd : rd_T46 xs (i : Int) = xs[i] := by simp [rd_T46, List.getD, hlt']
      rw [erd] at hx0 hx1
      clear erd
      obtain ⟨x, hx⟩ : ∃ x, xs[i] = x := ⟨_, rfl⟩
      rw [hx] at hx0 hx1
      have HX := Lib.hid hx
      clear hx
      go_wp2_with fail
      refine (push B R L f _ x _ HP.out).mono ?_
      rintro e w4 ⟨u, b, rfl, ⟨f', hp⟩, hc⟩
      have HB4 : Hid (Below w.heap.size w w4) := hc.onto HB.out (Nat.le_refl _) HN.out
      have HP4 : Hid (P w4 B R L f' ((xs.take (i + 1)).drop ((xs.take (i + 1)).length - L))) := by
        rw [pushed_last, ← HX.out, List.take_append_getElem] at hp; exact hp
      clear hp hc HP HB
      go_wp2
      go_roundw
      case rel => exact ⟨i + 1, f', by omega, by go_num, HP4.out, HB4.out⟩
      case measure => simp [intOf]; omega
    · have e : i = n := by omega
      subst e
      rw [show xs.take i = xs by rw [← HN'.out, List.take_length], HN'.out, HE.out] at HP
      obtain ⟨ys, hys⟩ : ∃ ys, xs.drop m = ys := ⟨_, rfl⟩
      rw [hys] at HP
      have hyl : ys.length = k := by rw [← hys, List.length_drop, HN'.out, HM.out]; omega
      have HYS := Lib.hid hys; have HYL := Lib.hid hyl
      clear hys hyl
      have SAME : Hid (∀ (w9 : World) (A4 : Option Addr) (c4 : Nat) (A' : Option Addr) (len' c' : Nat), ys.length ≤ c4 → Kd.C k46 w9 A4 ys.length ys → (A' = if cap = m then A else A.map (·.add (m * 2))) → len' = ys.length → c' = cap - m → Below w.heap.size w w9 → Calls Try.prog 39 #[.slice A4 ys.length c4, .slice A' len' c'] w9 (fun e w' => e = .returned (.bool true) ∧ Drawn0 w9 w')) := by
        intro w9 A4 c4 A' len' c' h1 h2 hA hl' hc' hb9
        subst hA; subst hl'; subst hc'
        obtain ⟨K1, hK1⟩ := same_items ys (by rw [HYL.out]; have := HM.out; omega)
        have hCx := Kd.C_below HC.out hb9
        rw [← HN'.out] at hCx
        have hd := Kd.C_drop (m := m) (c := cap) hCx (by rw [HN'.out, HM.out]; omega) (by rw [HN'.out]; exact hcap)
        rw [HYS.out] at hd
        exact whilomref02_Same.calls K1 A4 c4 ys _ (cap - m) ys true w9 h2 h1 hd (by rw [HYL.out]; have := HM.out; omega) hK1
      have hw0 : IntKind.i64.wrap 0 = 0 := rfl
      have SAME : Hid (∀ (w9 : World) (A4 : Option Addr) (c4 : Nat) (A' : Option Addr) (len' c' : Nat), ys.length ≤ c4 → Kd.C k46 w9 A4 ys.length ys → (A' = if cap = m then A else A.map (·.add (m * 2))) → len' = ys.length → c' = cap - m → Below w.heap.size w w9 → Calls Try.prog 39 #[.slice A4 ys.length c4, .slice A' len' c'] w9 (fun e w' => e = .returned (.bool true) ∧ Drawn0 w9 w')) := by
        intro w9 A4 c4 A' len' c' h1 h2 hA hl' hc' hb9
        subst hA; subst hl'; subst hc'
        obtain ⟨K1, hK1⟩ := same_items ys (by rw [HYL.out]; have := HM.out; omega)
        have hCx := Kd.C_below HC.out hb9
        rw [← HN'.out] at hCx
        have hd := Kd.C_drop (m := m) (c := cap) hCx (by rw [HN'.out, HM.out]; omega) (by rw [HN'.out]; exact hcap)
        rw [HYS.out] at hd
        exact whilomref02_Same.calls K1 A4 c4 ys _ (cap - m) ys true w9 h2 h1 hd (by rw [HYL.out]; have := HM.out; omega) hK1
      have hw0 : IntKind.i64.wrap 0 = 0 := rfl
      have SAME : Hid (∀ (w9 : World) (A4 : Option Addr) (c4 : Nat) (A' : Option Addr) (len' c' : Nat), ys.length ≤ c4 → Kd.C k46 w9 A4 ys.length ys → (A' = if cap = m then A else A.map (·.add (m * 2))) → len' = ys.length → c' = cap - m → Below w.heap.size w w9 → Calls Try.prog 39 #[.slice A4 ys.length c4, .slice A' len' c'] w9 (fun e w' => e = .returned (.bool true) ∧ Drawn0 w9 w')) := by
        intro w9 A4 c4 A' len' c' h1 h2 hA hl' hc' hb9
        subst hA; subst hl'; subst hc'
        obtain ⟨K1, hK1⟩ := same_items ys (by rw [HYL.out]; have := HM.out; omega)
        have hCx := Kd.C_below HC.out hb9
        rw [← HN'.out] at hCx
        have hd := Kd.C_drop (m := m) (c := cap) hCx (by rw [HN'.out, HM.out]; omega) (by rw [HN'.out]; exact hcap)
        rw [HYS.out] at hd
        exact whilomref02_Same.calls K1 A4 c4 ys _ (cap - m) ys true w9 h2 h1 hd (by rw [HYL.out]; have := HM.out; omega) hK1
      have hw0 : IntKind.i64.wrap 0 = 0 := rfl
      have SAME : Hid (∀ (w9 : World) (A4 : Option Addr) (c4 : Nat) (A' : Option Addr) (len' c' : Nat), ys.length ≤ c4 → Kd.C k46 w9 A4 ys.length ys → (A' = if cap = m then A else A.map (·.add (m * 2))) → len' = ys.length → c' = cap - m → Below w.heap.size w w9 → Calls Try.prog 39 #[.slice A4 ys.length c4, .slice A' len' c'] w9 (fun e w' => e = .returned (.bool true) ∧ Drawn0 w9 w')) := by
        intro w9 A4 c4 A' len' c' h1 h2 hA hl' hc' hb9
        subst hA; subst hl'; subst hc'
        obtain ⟨K1, hK1⟩ := same_items ys (by rw [HYL.out]; have := HM.out; omega)
        have hCx := Kd.C_below HC.out hb9
        rw [← HN'.out] at hCx
        have hd := Kd.C_drop (m := m) (c := cap) hCx (by rw [HN'.out, HM.out]; omega) (by rw [HN'.out]; exact hcap)
        rw [HYS.out] at hd
        exact whilomref02_Same.calls K1 A4 c4 ys _ (cap - m) ys true w9 h2 h1 hd (by rw [HYL.out]; have := HM.out; omega) hK1
      have hw0 : IntKind.i64.wrap 0 = 0 := rfl
      have SAME : Hid (∀ (w9 : World) (A4 : Option Addr) (c4 : Nat) (A' : Option Addr) (len' c' : Nat), ys.length ≤ c4 → Kd.C k46 w9 A4 ys.length ys → (A' = if cap = m then A else A.map (·.add (m * 2))) → len' = ys.length → c' = cap - m → Below w.heap.size w w9 → Calls Try.prog 39 #[.slice A4 ys.length c4, .slice A' len' c'] w9 (fun e w' => e = .returned (.bool true) ∧ Drawn0 w9 w')) := by
        intro w9 A4 c4 A' len' c' h1 h2 hA hl' hc' hb9
        subst hA; subst hl'; subst hc'
        obtain ⟨K1, hK1⟩ := same_items ys (by rw [HYL.out]; have := HM.out; omega)
        have hCx := Kd.C_below HC.out hb9
        rw [← HN'.out] at hCx
        have hd := Kd.C_drop (m := m) (c := cap) hCx (by rw [HN'.out, HM.out]; omega) (by rw [HN'.out]; exact hcap)
        rw [HYS.out] at hd
        exact whilomref02_Same.calls K1 A4 c4 ys _ (cap - m) ys true w9 h2 h1 hd (by rw [HYL.out]; have := HM.out; omega) hK1
      have hw0 : IntKind.i64.wrap 0 = 0 := rfl
      have SAME : Hid (∀ (w9 : World) (A4 : Option Addr) (c4 : Nat) (A' : Option Addr) (len' c' : Nat), ys.length ≤ c4 → Kd.C k46 w9 A4 ys.length ys → (A' = if cap = m then A else A.map (·.add (m * 2))) → len' = ys.length → c' = cap - m → Below w.heap.size w w9 → Calls Try.prog 39 #[.slice A4 ys.length c4, .slice A' len' c'] w9 (fun e w' => e = .returned (.bool true) ∧ Drawn0 w9 w')) := by
        intro w9 A4 c4 A' len' c' h1 h2 hA hl' hc' hb9
        subst hA; subst hl'; subst hc'
        obtain ⟨K1, hK1⟩ := same_items ys (by rw [HYL.out]; have := HM.out; omega)
        have hCx := Kd.C_below HC.out hb9
        rw [← HN'.out] at hCx
        have hd := Kd.C_drop (m := m) (c := cap) hCx (by rw [HN'.out, HM.out]; omega) (by rw [HN'.out]; exact hcap)
        rw [HYS.out] at hd
        exact whilomref02_Same.calls K1 A4 c4 ys _ (cap - m) ys true w9 h2 h1 hd (by rw [HYL.out]; have := HM.out; omega) hK1
      have hw0 : IntKind.i64.wrap 0 = 0 := rfl
      have SAME : Hid (∀ (w9 : World) (A4 : Option Addr) (c4 : Nat) (A' : Option Addr) (len' c' : Nat), ys.length ≤ c4 → Kd.C k46 w9 A4 ys.length ys → (A' = if cap = m then A else A.map (·.add (m * 2))) → len' = ys.length → c' = cap - m → Below w.heap.size w w9 → Calls Try.prog 39 #[.slice A4 ys.length c4, .slice A' len' c'] w9 (fun e w' => e = .returned (.bool true) ∧ Drawn0 w9 w')) := by
        intro w9 A4 c4 A' len' c' h1 h2 hA hl' hc' hb9
        subst hA; subst hl'; subst hc'
        obtain ⟨K1, hK1⟩ := same_items ys (by rw [HYL.out]; have := HM.out; omega)
        have hCx := Kd.C_below HC.out hb9
        rw [← HN'.out] at hCx
        have hd := Kd.C_drop (m := m) (c := cap) hCx (by rw [HN'.out, HM.out]; omega) (by rw [HN'.out]; exact hcap)
        rw [HYS.out] at hd
        exact whilomref02_Same.calls K1 A4 c4 ys _ (cap - m) ys true w9 h2 h1 hd (by rw [HYL.out]; have := HM.out; omega) hK1
      have hw0 : IntKind.i64.wrap 0 = 0 := rfl
      have SAME : Hid (∀ (w9 : World) (A4 : Option Addr) (c4 : Nat) (A' : Option Addr) (len' c' : Nat), ys.length ≤ c4 → Kd.C k46 w9 A4 ys.length ys → (A' = if cap = m then A else A.map (·.add (m * 2))) → len' = ys.length → c' = cap - m → Below w.heap.size w w9 → Calls Try.prog 39 #[.slice A4 ys.length c4, .slice A' len' c'] w9 (fun e w' => e = .returned (.bool true) ∧ Drawn0 w9 w')) := by
        intro w9 A4 c4 A' len' c' h1 h2 hA hl' hc' hb9
        subst hA; subst hl'; subst hc'
        obtain ⟨K1, hK1⟩ := same_items ys (by rw [HYL.out]; have := HM.out; omega)
        have hCx := Kd.C_below HC.out hb9
        rw [← HN'.out] at hCx
        have hd := Kd.C_drop (m := m) (c := cap) hCx (by rw [HN'.out, HM.out]; omega) (by rw [HN'.out]; exact hcap)
        rw [HYS.out] at hd
        exact whilomref02_Same.calls K1 A4 c4 ys _ (cap - m) ys true w9 h2 h1 hd (by rw [HYL.out]; have := HM.out; omega) hK1
      have hw0 : IntKind.i64.wrap 0 = 0 := rfl
      have SAME : Hid (∀ (w9 : World) (A4 : Option Addr) (c4 : Nat) (A' : Option Addr) (len' c' : Nat), ys.length ≤ c4 → Kd.C k46 w9 A4 ys.length ys → (A' = if cap = m then A else A.map (·.add (m * 2))) → len' = ys.length → c' = cap - m → Below w.heap.size w w9 → Calls Try.prog 39 #[.slice A4 ys.length c4, .slice A' len' c'] w9 (fun e w' => e = .returned (.bool true) ∧ Drawn0 w9 w')) := by
        intro w9 A4 c4 A' len' c' h1 h2 hA hl' hc' hb9
        subst hA; subst hl'; subst hc'
        obtain ⟨K1, hK1⟩ := same_items ys (by rw [HYL.out]; have := HM.out; omega)
        have hCx := Kd.C_below HC.out hb9
        rw [← HN'.out] at hCx
        have hd := Kd.C_drop (m := m) (c := cap) hCx (by rw [HN'.out, HM.out]; omega) (by rw [HN'.out]; exact hcap)
        rw [HYS.out] at hd
        exact whilomref02_Same.calls K1 A4 c4 ys _ (cap - m) ys true w9 h2 h1 hd (by rw [HYL.out]; have := HM.out; omega) hK1
      have hw0 : IntKind.i64.wrap 0 = 0 := rfl
      have SAME : Hid (∀ (w9 : World) (A4 : Option Addr) (c4 : Nat) (A' : Option Addr) (len' c' : Nat), ys.length ≤ c4 → Kd.C k46 w9 A4 ys.length ys → (A' = if cap = m then A else A.map (·.add (m * 2))) → len' = ys.length → c' = cap - m → Below w.heap.size w w9 → Calls Try.prog 39 #[.slice A4 ys.length c4, .slice A' len' c'] w9 (fun e w' => e = .returned (.bool true) ∧ Drawn0 w9 w')) := by
        intro w9 A4 c4 A' len' c' h1 h2 hA hl' hc' hb9
        subst hA; subst hl'; subst hc'
        obtain ⟨K1, hK1⟩ := same_items ys (by rw [HYL.out]; have := HM.out; omega)
        have hCx := Kd.C_below HC.out hb9
        rw [← HN'.out] at hCx
        have hd := Kd.C_drop (m := m) (c := cap) hCx (by rw [HN'.out, HM.out]; omega) (by rw [HN'.out]; exact hcap)
        rw [HYS.out] at hd
        exact whilomref02_Same.calls K1 A4 c4 ys _ (cap - m) ys true w9 h2 h1 hd (by rw [HYL.out]; have := HM.out; omega) hK1
      have hw0 : IntKind.i64.wrap 0 = 0 := rfl
      by_cases hnl : (i : Int) < (L : Int)
      · go_wp2_with fail
        obtain rfl : k = i := by have := HK.out; omega
        obtain rfl : m = 0 := by have := HM.out; omega
        by_cases hcm : cap = 0
        · skip
          have hki : k ≤ k := by rw [HM.out]; omega
          have hmi : 0 ≤ k := by rw [HM.out]; omega
          have hmc : 0 ≤ cap := by omega
          have HPd : Hid (P wr.drew B R L f ys) := HP.out.keep (show Chg (fun _ => False) wr wr.drew from ⟨rfl, rfl, rfl, Nat.le_refl _, fun k _ _ => rfl⟩) (by simp) (by simp)
          have HBd : Hid (Below w.heap.size w wr.drew) := HB.out.drew
          clear HP HB
          go_region_with (first | (go_at_call 40; refine (list B R L f ys _ HPd.out).mono ?_; rintro e w9 ⟨v9, rfl, hown, hb⟩; obtain ⟨A4, c4, rfl, hcl4, hC4⟩ := Kd.R_reads hown; have HP9 : Hid (P w9 B R L f ys) := (HPd.out.keep (Chg.of_below (S := fun _ => False) hb) (by simp) (by simp)); have HB9 : Hid (Below w.heap.size w w9) := (HBd.out.trans (hb.mono HBd.out.size)); have HC4 := Lib.hid hC4; have HL4 := Lib.hid hcl4; clear hown hb hC4 hcl4) | (go_at_call 39; refine (SAME.out _ _ _ _ _ _ HL4.out HC4.out (by first | (simp [hcm]; done) | (cases A <;> simp [hcm, Addr.add])) (by have := HYL.out; have := HM.out; omega) (by omega) HB9.out).mono ?_; rintro e w10 ⟨rfl, hd⟩))
          have hb := hd.below
          have HP10 : Hid (P w10 B R L f ys) := HP9.out.keep (Chg.of_below (S := fun _ => False) hb) (by simp) (by simp)
          have HB10 : Hid (Below w.heap.size w w10) := HB9.out.trans (hb.mono HB9.out.size)
          clear hd hb HP9 HB9 HC4 HL4 SAME HPd HBd hcm
          go_wp2_with fail
          go_loopw [9] (fun v wr => ∃ (j f : Nat), j ≤ k ∧ v = .int .i64 j ∧ P wr B R L f (ys.take (k - j)) ∧ Below w.heap.size w wr) (fun v _ => k - (intOf v).toNat)
          case atStart => exact ⟨0, f, by omega, rfl, by rw [Nat.sub_zero, List.take_of_length_le (Nat.le_of_eq HYL.out)]; exact HP10.out, HB10.out⟩
          case round =>
            clear HP10 HB10
            obtain ⟨j, f, hj, rfl, hp, hb⟩ := hrel
            have HP := Lib.hid hp; have HB := Lib.hid hb
            clear hp hb
            by_cases hjk : j < k
            · obtain ⟨q, hq⟩ : ∃ q, k - 1 - j = q := ⟨_, rfl⟩
              have hq1 : q < ys.length := by rw [HYL.out]; omega
              have hq2 : 0 + q < xs.length := by rw [HN'.out, HM.out]; omega
              obtain ⟨v, hv⟩ : ∃ v, ys[q] = v := ⟨_, rfl⟩
              have hxv : rd_T46 xs ((0 + q : Nat) : Int) = v := by
                have : ys[q]? = some v := by rw [List.getElem?_eq_getElem hq1, hv]
                rw [← HYS.out, List.getElem?_drop] at this
                unfold rd_T46; rw [Int.toNat_natCast, List.getD_eq_getElem?_getD, this]; rfl
              have HV : Hid ((ys.take (k - j)).getLast? = some v) := Lib.hid (by
                rw [List.getLast?_eq_getElem?, List.length_take, HYL.out, List.getElem?_take, if_pos (by omega), show min (k - j) k - 1 = q by omega, List.getElem?_eq_getElem hq1, hv])
              have HT : Hid ((ys.take (k - j)).dropLast = ys.take (k - (j + 1))) := Lib.hid (by
                rw [List.dropLast_eq_take, List.take_take, List.length_take, HYL.out]; congr 1; omega)
              have HXV := Lib.hid hxv
              have HQ2 := Lib.hid hq2
              have HQ := Lib.hid hq
              clear hq1 hv hxv hq2 hq
              go_wp2_with fail
              refine (pop_some B R L f _ v _ HP.out HV.out).mono ?_
              rintro e w4 ⟨rfl, hp, hc⟩
              have HB4 : Hid (Below w.heap.size w w4) := hc.onto HB.out (Nat.le_refl _) HN.out
              have HP4 : Hid (P w4 B R L f (ys.take (k - (j + 1)))) := by rw [HT.out] at hp; exact hp
              clear hp hc HP HB HV HT
              have HBW : Hid (Below w.heap.size w (w4.alloc (Obj.cells #[.int .i64 v.f0, .int .i64 v.f1] 46))) := ((Chg.refl (fun _ => False) w4).alloc _).onto HB4.out (Nat.le_refl _) (by simp)
              have HPW : Hid (P (w4.alloc (Obj.cells #[.int .i64 v.f0, .int .i64 v.f1] 46)) B R L f (ys.take (k - (j + 1)))) := HP4.out.keep ((Chg.refl (fun _ => False) w4).alloc _) (by simp) (by simp)
              have hBT : Blk (w4.alloc (Obj.cells #[.int .i64 v.f0, .int .i64 v.f1] 46)) w4.heap.size #[.int .i64 v.f0, .int .i64 v.f1] 46 := Blk.new _ _ _
              have r0 := hBT.cell (j := 0) rfl
              have r1 := hBT.cell (j := 1) rfl
              obtain ⟨r, hr⟩ : ∃ r, 0 + q = r := ⟨_, rfl⟩
              rw [hr] at HXV
              have hri : r < k := by have := HQ2.out; rw [HN'.out] at this; omega
              obtain ⟨ad, rfl, hx0, hx1⟩ := at_T46 (Kd.C_below HC.out HBW.out) (r : Int) (by omega) (by omega)
              rw [HXV.out, Int.toNat_natCast] at hx0 hx1
              obtain ⟨p, hp⟩ : ∃ p, k - 1 = p := ⟨_, rfl⟩
              have hp1 : IntKind.i64.wrap ((k : Int) - 1) = (p : Int) := by rw [show ((k : Int) - 1) = p by omega]; exact IntWalk.i64_in _ (by omega)
              have hp2 : IntKind.i64.wrap ((p : Int) - j) = (r : Int) := by rw [show ((p : Int) - j) = r by have := HQ.out; have := HM.out; omega]; exact IntWalk.i64_in _ (by omega)
              have hri2 : (r : Int) < (k : Int) := by omega
              have hri3 : 0 ≤ (r : Int) := by omega
              clear hBT hp hr HB4 HP4 HXV HQ HQ2
              go_wp2_with fail
              generalize w4.alloc (Obj.cells #[.int .i64 v.f0, .int .i64 v.f1] 46) = W at HBW HPW r0 r1 hx0 hx1 ⊢
              generalize w4.heap.size = N at r0 r1 ⊢
              go_quiet (fail)
              go_wp2
              go_roundw
              case rel =>
                first
                  | exact ⟨j + 1, f, by omega, by go_num, HPW.out.keep (Chg.of_below (S := fun _ => False) (pw_below_drewN (Below.refl _ _) _)) (by simp) (by simp), pw_below_drewN HBW.out _⟩
                  | ((repeat apply Exists.intro); refine ⟨?_, rfl⟩; exact ⟨j + 1, f, by omega, by go_num, HPW.out.keep (Chg.of_below (S := fun _ => False) (pw_below_drewN (Below.refl _ _) _)) (by simp) (by simp), pw_below_drewN HBW.out _⟩)
              case measure => simp [intOf]; omega
            · have e : k = j := by omega
              subst e
              rw [Nat.sub_self, List.take_zero] at HP
              go_wp2_with fail
              refine (pop_none B R L f _ HP.out).mono ?_
              rintro e w4 ⟨rfl, hp, hc⟩
              have HB4 : Hid (Below w.heap.size w w4) := hc.onto HB.out (Nat.le_refl _) HN.out
              have HPW : Hid (P (w4.alloc (Obj.cells #[.int .i64 0, .int .i64 0] 46)) B R L f []) := hp.keep ((Chg.refl (fun _ => False) w4).alloc _) (by simp) (by simp)
              have HBW : Hid (Below w.heap.size w (w4.alloc (Obj.cells #[.int .i64 0, .int .i64 0] 46))) := ((Chg.refl (fun _ => False) w4).alloc _).onto HB4.out (Nat.le_refl _) (by simp)
              have hBT : Blk (w4.alloc (Obj.cells #[.int .i64 0, .int .i64 0] 46)) w4.heap.size #[.int .i64 0, .int .i64 0] 46 := Blk.new _ _ _
              have r0 := hBT.cell (j := 0) rfl
              have r1 := hBT.cell (j := 1) rfl
              clear hp hc HP HB HB4 hBT
              go_wp2_with fail
              refine (len B R L f [] _ HPW.out).mono ?_
              rintro e w5 ⟨rfl, rfl⟩
              go_wp2
              go_ret
              exact ⟨rfl, HBW.out⟩
        · skip
          have hki : k ≤ k := by rw [HM.out]; omega
          have hmi : 0 ≤ k := by rw [HM.out]; omega
          have hmc : 0 ≤ cap := by omega
          have HPd : Hid (P wr.drew B R L f ys) := HP.out.keep (show Chg (fun _ => False) wr wr.drew from ⟨rfl, rfl, rfl, Nat.le_refl _, fun k _ _ => rfl⟩) (by simp) (by simp)
          have HBd : Hid (Below w.heap.size w wr.drew) := HB.out.drew
          clear HP HB
          go_region_with (first | (go_at_call 40; refine (list B R L f ys _ HPd.out).mono ?_; rintro e w9 ⟨v9, rfl, hown, hb⟩; obtain ⟨A4, c4, rfl, hcl4, hC4⟩ := Kd.R_reads hown; have HP9 : Hid (P w9 B R L f ys) := (HPd.out.keep (Chg.of_below (S := fun _ => False) hb) (by simp) (by simp)); have HB9 : Hid (Below w.heap.size w w9) := (HBd.out.trans (hb.mono HBd.out.size)); have HC4 := Lib.hid hC4; have HL4 := Lib.hid hcl4; clear hown hb hC4 hcl4) | (go_at_call 39; refine (SAME.out _ _ _ _ _ _ HL4.out HC4.out (by first | (simp [hcm]; done) | (cases A <;> simp [hcm, Addr.add])) (by have := HYL.out; have := HM.out; omega) (by omega) HB9.out).mono ?_; rintro e w10 ⟨rfl, hd⟩))
          have hb := hd.below
          have HP10 : Hid (P w10 B R L f ys) := HP9.out.keep (Chg.of_below (S := fun _ => False) hb) (by simp) (by simp)
          have HB10 : Hid (Below w.heap.size w w10) := HB9.out.trans (hb.mono HB9.out.size)
          clear hd hb HP9 HB9 HC4 HL4 SAME HPd HBd hcm
          go_wp2_with fail
          go_loopw [9] (fun v wr => ∃ (j f : Nat), j ≤ k ∧ v = .int .i64 j ∧ P wr B R L f (ys.take (k - j)) ∧ Below w.heap.size w wr) (fun v _ => k - (intOf v).toNat)
          case atStart => exact ⟨0, f, by omega, rfl, by rw [Nat.sub_zero, List.take_of_length_le (Nat.le_of_eq HYL.out)]; exact HP10.out, HB10.out⟩
          case round =>
            clear HP10 HB10
            obtain ⟨j, f, hj, rfl, hp, hb⟩ := hrel
            have HP := Lib.hid hp; have HB := Lib.hid hb
            clear hp hb
            by_cases hjk : j < k
            · obtain ⟨q, hq⟩ : ∃ q, k - 1 - j = q := ⟨_, rfl⟩
              have hq1 : q < ys.length := by rw [HYL.out]; omega
              have hq2 : 0 + q < xs.length := by rw [HN'.out, HM.out]; omega
              obtain ⟨v, hv⟩ : ∃ v, ys[q] = v := ⟨_, rfl⟩
              have hxv : rd_T46 xs ((0 + q : Nat) : Int) = v := by
                have : ys[q]? = some v := by rw [List.getElem?_eq_getElem hq1, hv]
                rw [← HYS.out, List.getElem?_drop] at this
                unfold rd_T46; rw [Int.toNat_natCast, List.getD_eq_getElem?_getD, this]; rfl
              have HV : Hid ((ys.take (k - j)).getLast? = some v) := Lib.hid (by
                rw [List.getLast?_eq_getElem?, List.length_take, HYL.out, List.getElem?_take, if_pos (by omega), show min (k - j) k - 1 = q by omega, List.getElem?_eq_getElem hq1, hv])
              have HT : Hid ((ys.take (k - j)).dropLast = ys.take (k - (j + 1))) := Lib.hid (by
                rw [List.dropLast_eq_take, List.take_take, List.length_take, HYL.out]; congr 1; omega)
              have HXV := Lib.hid hxv
              have HQ2 := Lib.hid hq2
              have HQ := Lib.hid hq
              clear hq1 hv hxv hq2 hq
              go_wp2_with fail
              refine (pop_some B R L f _ v _ HP.out HV.out).mono ?_
              rintro e w4 ⟨rfl, hp, hc⟩
              have HB4 : Hid (Below w.heap.size w w4) := hc.onto HB.out (Nat.le_refl _) HN.out
              have HP4 : Hid (P w4 B R L f (ys.take (k - (j + 1)))) := by rw [HT.out] at hp; exact hp
              clear hp hc HP HB HV HT
              have HBW : Hid (Below w.heap.size w (w4.alloc (Obj.cells #[.int .i64 v.f0, .int .i64 v.f1] 46))) := ((Chg.refl (fun _ => False) w4).alloc _).onto HB4.out (Nat.le_refl _) (by simp)
              have HPW : Hid (P (w4.alloc (Obj.cells #[.int .i64 v.f0, .int .i64 v.f1] 46)) B R L f (ys.take (k - (j + 1)))) := HP4.out.keep ((Chg.refl (fun _ => False) w4).alloc _) (by simp) (by simp)
              have hBT : Blk (w4.alloc (Obj.cells #[.int .i64 v.f0, .int .i64 v.f1] 46)) w4.heap.size #[.int .i64 v.f0, .int .i64 v.f1] 46 := Blk.new _ _ _
              have r0 := hBT.cell (j := 0) rfl
              have r1 := hBT.cell (j := 1) rfl
              obtain ⟨r, hr⟩ : ∃ r, 0 + q = r := ⟨_, rfl⟩
              rw [hr] at HXV
              have hri : r < k := by have := HQ2.out; rw [HN'.out] at this; omega
              obtain ⟨ad, rfl, hx0, hx1⟩ := at_T46 (Kd.C_below HC.out HBW.out) (r : Int) (by omega) (by omega)
              rw [HXV.out, Int.toNat_natCast] at hx0 hx1
              obtain ⟨p, hp⟩ : ∃ p, k - 1 = p := ⟨_, rfl⟩
              have hp1 : IntKind.i64.wrap ((k : Int) - 1) = (p : Int) := by rw [show ((k : Int) - 1) = p by omega]; exact IntWalk.i64_in _ (by omega)
              have hp2 : IntKind.i64.wrap ((p : Int) - j) = (r : Int) := by rw [show ((p : Int) - j) = r by have := HQ.out; have := HM.out; omega]; exact IntWalk.i64_in _ (by omega)
              have hri2 : (r : Int) < (k : Int) := by omega
              have hri3 : 0 ≤ (r : Int) := by omega
              clear hBT hp hr HB4 HP4 HXV HQ HQ2
              go_wp2_with fail
              generalize w4.alloc (Obj.cells #[.int .i64 v.f0, .int .i64 v.f1] 46) = W at HBW HPW r0 r1 hx0 hx1 ⊢
              generalize w4.heap.size = N at r0 r1 ⊢
              go_quiet (fail)
              go_wp2
              go_roundw
              case rel =>
                first
                  | exact ⟨j + 1, f, by omega, by go_num, HPW.out.keep (Chg.of_below (S := fun _ => False) (pw_below_drewN (Below.refl _ _) _)) (by simp) (by simp), pw_below_drewN HBW.out _⟩
                  | ((repeat apply Exists.intro); refine ⟨?_, rfl⟩; exact ⟨j + 1, f, by omega, by go_num, HPW.out.keep (Chg.of_below (S := fun _ => False) (pw_below_drewN (Below.refl _ _) _)) (by simp) (by simp), pw_below_drewN HBW.out _⟩)
              case measure => simp [intOf]; omega
            · have e : k = j := by omega
              subst e
              rw [Nat.sub_self, List.take_zero] at HP
              go_wp2_with fail
              refine (pop_none B R L f _ HP.out).mono ?_
              rintro e w4 ⟨rfl, hp, hc⟩
              have HB4 : Hid (Below w.heap.size w w4) := hc.onto HB.out (Nat.le_refl _) HN.out
              have HPW : Hid (P (w4.alloc (Obj.cells #[.int .i64 0, .int .i64 0] 46)) B R L f []) := hp.keep ((Chg.refl (fun _ => False) w4).alloc _) (by simp) (by simp)
              have HBW : Hid (Below w.heap.size w (w4.alloc (Obj.cells #[.int .i64 0, .int .i64 0] 46))) := ((Chg.refl (fun _ => False) w4).alloc _).onto HB4.out (Nat.le_refl _) (by simp)
              have hBT : Blk (w4.alloc (Obj.cells #[.int .i64 0, .int .i64 0] 46)) w4.heap.size #[.int .i64 0, .int .i64 0] 46 := Blk.new _ _ _
              have r0 := hBT.cell (j := 0) rfl
              have r1 := hBT.cell (j := 1) rfl
              clear hp hc HP HB HB4 hBT
              go_wp2_with fail
              refine (len B R L f [] _ HPW.out).mono ?_
              rintro e w5 ⟨rfl, rfl⟩
              go_wp2
              go_ret
              exact ⟨rfl, HBW.out⟩
      · go_wp2_with fail
        obtain rfl : k = L := by have := HK.out; omega
        by_cases hcm : cap = m
        · skip
          have hki : k ≤ i := by rw [HM.out]; omega
          have hmi : m ≤ i := by rw [HM.out]; omega
          have hmc : m ≤ cap := by omega
          have HPd : Hid (P wr.drew B R k f ys) := HP.out.keep (show Chg (fun _ => False) wr wr.drew from ⟨rfl, rfl, rfl, Nat.le_refl _, fun k _ _ => rfl⟩) (by simp) (by simp)
          have HBd : Hid (Below w.heap.size w wr.drew) := HB.out.drew
          clear HP HB
          go_region_with (first | (go_at_call 40; refine (list B R k f ys _ HPd.out).mono ?_; rintro e w9 ⟨v9, rfl, hown, hb⟩; obtain ⟨A4, c4, rfl, hcl4, hC4⟩ := Kd.R_reads hown; have HP9 : Hid (P w9 B R k f ys) := (HPd.out.keep (Chg.of_below (S := fun _ => False) hb) (by simp) (by simp)); have HB9 : Hid (Below w.heap.size w w9) := (HBd.out.trans (hb.mono HBd.out.size)); have HC4 := Lib.hid hC4; have HL4 := Lib.hid hcl4; clear hown hb hC4 hcl4) | (go_at_call 39; refine (SAME.out _ _ _ _ _ _ HL4.out HC4.out (by first | (simp [hcm]; done) | (cases A <;> simp [hcm, Addr.add])) (by have := HYL.out; have := HM.out; omega) (by omega) HB9.out).mono ?_; rintro e w10 ⟨rfl, hd⟩))
          have hb := hd.below
          have HP10 : Hid (P w10 B R k f ys) := HP9.out.keep (Chg.of_below (S := fun _ => False) hb) (by simp) (by simp)
          have HB10 : Hid (Below w.heap.size w w10) := HB9.out.trans (hb.mono HB9.out.size)
          clear hd hb HP9 HB9 HC4 HL4 SAME HPd HBd hcm
          go_wp2_with fail
          go_loopw [9] (fun v wr => ∃ (j f : Nat), j ≤ k ∧ v = .int .i64 j ∧ P wr B R k f (ys.take (k - j)) ∧ Below w.heap.size w wr) (fun v _ => k - (intOf v).toNat)
          case atStart => exact ⟨0, f, by omega, rfl, by rw [Nat.sub_zero, List.take_of_length_le (Nat.le_of_eq HYL.out)]; exact HP10.out, HB10.out⟩
          case round =>
            clear HP10 HB10
            obtain ⟨j, f, hj, rfl, hp, hb⟩ := hrel
            have HP := Lib.hid hp; have HB := Lib.hid hb
            clear hp hb
            by_cases hjk : j < k
            · obtain ⟨q, hq⟩ : ∃ q, k - 1 - j = q := ⟨_, rfl⟩
              have hq1 : q < ys.length := by rw [HYL.out]; omega
              have hq2 : m + q < xs.length := by rw [HN'.out, HM.out]; omega
              obtain ⟨v, hv⟩ : ∃ v, ys[q] = v := ⟨_, rfl⟩
              have hxv : rd_T46 xs ((m + q : Nat) : Int) = v := by
                have : ys[q]? = some v := by rw [List.getElem?_eq_getElem hq1, hv]
                rw [← HYS.out, List.getElem?_drop] at this
                unfold rd_T46; rw [Int.toNat_natCast, List.getD_eq_getElem?_getD, this]; rfl
              have HV : Hid ((ys.take (k - j)).getLast? = some v) := Lib.hid (by
                rw [List.getLast?_eq_getElem?, List.length_take, HYL.out, List.getElem?_take, if_pos (by omega), show min (k - j) k - 1 = q by omega, List.getElem?_eq_getElem hq1, hv])
              have HT : Hid ((ys.take (k - j)).dropLast = ys.take (k - (j + 1))) := Lib.hid (by
                rw [List.dropLast_eq_take, List.take_take, List.length_take, HYL.out]; congr 1; omega)
              have HXV := Lib.hid hxv
              have HQ2 := Lib.hid hq2
              have HQ := Lib.hid hq
              clear hq1 hv hxv hq2 hq
              go_wp2_with fail
              refine (pop_some B R k f _ v _ HP.out HV.out).mono ?_
              rintro e w4 ⟨rfl, hp, hc⟩
              have HB4 : Hid (Below w.heap.size w w4) := hc.onto HB.out (Nat.le_refl _) HN.out
              have HP4 : Hid (P w4 B R k f (ys.take (k - (j + 1)))) := by rw [HT.out] at hp; exact hp
              clear hp hc HP HB HV HT
              have HBW : Hid (Below w.heap.size w (w4.alloc (Obj.cells #[.int .i64 v.f0, .int .i64 v.f1] 46))) := ((Chg.refl (fun _ => False) w4).alloc _).onto HB4.out (Nat.le_refl _) (by simp)
              have HPW : Hid (P (w4.alloc (Obj.cells #[.int .i64 v.f0, .int .i64 v.f1] 46)) B R k f (ys.take (k - (j + 1)))) := HP4.out.keep ((Chg.refl (fun _ => False) w4).alloc _) (by simp) (by simp)
              have hBT : Blk (w4.alloc (Obj.cells #[.int .i64 v.f0, .int .i64 v.f1] 46)) w4.heap.size #[.int .i64 v.f0, .int .i64 v.f1] 46 := Blk.new _ _ _
              have r0 := hBT.cell (j := 0) rfl
              have r1 := hBT.cell (j := 1) rfl
              obtain ⟨r, hr⟩ : ∃ r, m + q = r := ⟨_, rfl⟩
              rw [hr] at HXV
              have hri : r < i := by have := HQ2.out; rw [HN'.out] at this; omega
              obtain ⟨ad, rfl, hx0, hx1⟩ := at_T46 (Kd.C_below HC.out HBW.out) (r : Int) (by omega) (by omega)
              rw [HXV.out, Int.toNat_natCast] at hx0 hx1
              obtain ⟨p, hp⟩ : ∃ p, i - 1 = p := ⟨_, rfl⟩
              have hp1 : IntKind.i64.wrap ((i : Int) - 1) = (p : Int) := by rw [show ((i : Int) - 1) = p by omega]; exact IntWalk.i64_in _ (by omega)
              have hp2 : IntKind.i64.wrap ((p : Int) - j) = (r : Int) := by rw [show ((p : Int) - j) = r by have := HQ.out; have := HM.out; omega]; exact IntWalk.i64_in _ (by omega)
              have hri2 : (r : Int) < (i : Int) := by omega
              have hri3 : 0 ≤ (r : Int) := by omega
              clear hBT hp hr HB4 HP4 HXV HQ HQ2
              go_wp2_with fail
              generalize w4.alloc (Obj.cells #[.int .i64 v.f0, .int .i64 v.f1] 46) = W at HBW HPW r0 r1 hx0 hx1 ⊢
              generalize w4.heap.size = N at r0 r1 ⊢
              go_quiet (fail)
              go_wp2
              go_roundw
              case rel =>
                first
                  | exact ⟨j + 1, f, by omega, by go_num, HPW.out.keep (Chg.of_below (S := fun _ => False) (pw_below_drewN (Below.refl _ _) _)) (by simp) (by simp), pw_below_drewN HBW.out _⟩
                  | ((repeat apply Exists.intro); refine ⟨?_, rfl⟩; exact ⟨j + 1, f, by omega, by go_num, HPW.out.keep (Chg.of_below (S := fun _ => False) (pw_below_drewN (Below.refl _ _) _)) (by simp) (by simp), pw_below_drewN HBW.out _⟩)
              case measure => simp [intOf]; omega
            · have e : k = j := by omega
              subst e
              rw [Nat.sub_self, List.take_zero] at HP
              go_wp2_with fail
              refine (pop_none B R k f _ HP.out).mono ?_
              rintro e w4 ⟨rfl, hp, hc⟩
              have HB4 : Hid (Below w.heap.size w w4) := hc.onto HB.out (Nat.le_refl _) HN.out
              have HPW : Hid (P (w4.alloc (Obj.cells #[.int .i64 0, .int .i64 0] 46)) B R k f []) := hp.keep ((Chg.refl (fun _ => False) w4).alloc _) (by simp) (by simp)
              have HBW : Hid (Below w.heap.size w (w4.alloc (Obj.cells #[.int .i64 0, .int .i64 0] 46))) := ((Chg.refl (fun _ => False) w4).alloc _).onto HB4.out (Nat.le_refl _) (by simp)
              have hBT : Blk (w4.alloc (Obj.cells #[.int .i64 0, .int .i64 0] 46)) w4.heap.size #[.int .i64 0, .int .i64 0] 46 := Blk.new _ _ _
              have r0 := hBT.cell (j := 0) rfl
              have r1 := hBT.cell (j := 1) rfl
              clear hp hc HP HB HB4 hBT
              go_wp2_with fail
              refine (len B R k f [] _ HPW.out).mono ?_
              rintro e w5 ⟨rfl, rfl⟩
              go_wp2
              go_ret
              exact ⟨rfl, HBW.out⟩
        · skip
          have hki : k ≤ i := by rw [HM.out]; omega
          have hmi : m ≤ i := by rw [HM.out]; omega
          have hmc : m ≤ cap := by omega
          have HPd : Hid (P wr.drew B R k f ys) := HP.out.keep (show Chg (fun _ => False) wr wr.drew from ⟨rfl, rfl, rfl, Nat.le_refl _, fun k _ _ => rfl⟩) (by simp) (by simp)
          have HBd : Hid (Below w.heap.size w wr.drew) := HB.out.drew
          clear HP HB
          go_region_with (first | (go_at_call 40; refine (list B R k f ys _ HPd.out).mono ?_; rintro e w9 ⟨v9, rfl, hown, hb⟩; obtain ⟨A4, c4, rfl, hcl4, hC4⟩ := Kd.R_reads hown; have HP9 : Hid (P w9 B R k f ys) := (HPd.out.keep (Chg.of_below (S := fun _ => False) hb) (by simp) (by simp)); have HB9 : Hid (Below w.heap.size w w9) := (HBd.out.trans (hb.mono HBd.out.size)); have HC4 := Lib.hid hC4; have HL4 := Lib.hid hcl4; clear hown hb hC4 hcl4) | (go_at_call 39; refine (SAME.out _ _ _ _ _ _ HL4.out HC4.out (by first | (simp [hcm]; done) | (cases A <;> simp [hcm, Addr.add])) (by have := HYL.out; have := HM.out; omega) (by omega) HB9.out).mono ?_; rintro e w10 ⟨rfl, hd⟩))
          have hb := hd.below
          have HP10 : Hid (P w10 B R k f ys) := HP9.out.keep (Chg.of_below (S := fun _ => False) hb) (by simp) (by simp)
          have HB10 : Hid (Below w.heap.size w w10) := HB9.out.trans (hb.mono HB9.out.size)
          clear hd hb HP9 HB9 HC4 HL4 SAME HPd HBd hcm
          go_wp2_with fail
          go_loopw [9] (fun v wr => ∃ (j f : Nat), j ≤ k ∧ v = .int .i64 j ∧ P wr B R k f (ys.take (k - j)) ∧ Below w.heap.size w wr) (fun v _ => k - (intOf v).toNat)
          case atStart => exact ⟨0, f, by omega, rfl, by rw [Nat.sub_zero, List.take_of_length_le (Nat.le_of_eq HYL.out)]; exact HP10.out, HB10.out⟩
          case round =>
            clear HP10 HB10
            obtain ⟨j, f, hj, rfl, hp, hb⟩ := hrel
            have HP := Lib.hid hp; have HB := Lib.hid hb
            clear hp hb
            by_cases hjk : j < k
            · obtain ⟨q, hq⟩ : ∃ q, k - 1 - j = q := ⟨_, rfl⟩
              have hq1 : q < ys.length := by rw [HYL.out]; omega
              have hq2 : m + q < xs.length := by rw [HN'.out, HM.out]; omega
              obtain ⟨v, hv⟩ : ∃ v, ys[q] = v := ⟨_, rfl⟩
              have hxv : rd_T46 xs ((m + q : Nat) : Int) = v := by
                have : ys[q]? = some v := by rw [List.getElem?_eq_getElem hq1, hv]
                rw [← HYS.out, List.getElem?_drop] at this
                unfold rd_T46; rw [Int.toNat_natCast, List.getD_eq_getElem?_getD, this]; rfl
              have HV : Hid ((ys.take (k - j)).getLast? = some v) := Lib.hid (by
                rw [List.getLast?_eq_getElem?, List.length_take, HYL.out, List.getElem?_take, if_pos (by omega), show min (k - j) k - 1 = q by omega, List.getElem?_eq_getElem hq1, hv])
              have HT : Hid ((ys.take (k - j)).dropLast = ys.take (k - (j + 1))) := Lib.hid (by
                rw [List.dropLast_eq_take, List.take_take, List.length_take, HYL.out]; congr 1; omega)
              have HXV := Lib.hid hxv
              have HQ2 := Lib.hid hq2
              have HQ := Lib.hid hq
              clear hq1 hv hxv hq2 hq
              go_wp2_with fail
              refine (pop_some B R k f _ v _ HP.out HV.out).mono ?_
              rintro e w4 ⟨rfl, hp, hc⟩
              have HB4 : Hid (Below w.heap.size w w4) := hc.onto HB.out (Nat.le_refl _) HN.out
              have HP4 : Hid (P w4 B R k f (ys.take (k - (j + 1)))) := by rw [HT.out] at hp; exact hp
              clear hp hc HP HB HV HT
              have HBW : Hid (Below w.heap.size w (w4.alloc (Obj.cells #[.int .i64 v.f0, .int .i64 v.f1] 46))) := ((Chg.refl (fun _ => False) w4).alloc _).onto HB4.out (Nat.le_refl _) (by simp)
              have HPW : Hid (P (w4.alloc (Obj.cells #[.int .i64 v.f0, .int .i64 v.f1] 46)) B R k f (ys.take (k - (j + 1)))) := HP4.out.keep ((Chg.refl (fun _ => False) w4).alloc _) (by simp) (by simp)
              have hBT : Blk (w4.alloc (Obj.cells #[.int .i64 v.f0, .int .i64 v.f1] 46)) w4.heap.size #[.int .i64 v.f0, .int .i64 v.f1] 46 := Blk.new _ _ _
              have r0 := hBT.cell (j := 0) rfl
              have r1 := hBT.cell (j := 1) rfl
              obtain ⟨r, hr⟩ : ∃ r, m + q = r := ⟨_, rfl⟩
              rw [hr] at HXV
              have hri : r < i := by have := HQ2.out; rw [HN'.out] at this; omega
              obtain ⟨ad, rfl, hx0, hx1⟩ := at_T46 (Kd.C_below HC.out HBW.out) (r : Int) (by omega) (by omega)
              rw [HXV.out, Int.toNat_natCast] at hx0 hx1
              obtain ⟨p, hp⟩ : ∃ p, i - 1 = p := ⟨_, rfl⟩
              have hp1 : IntKind.i64.wrap ((i : Int) - 1) = (p : Int) := by rw [show ((i : Int) - 1) = p by omega]; exact IntWalk.i64_in _ (by omega)
              have hp2 : IntKind.i64.wrap ((p : Int) - j) = (r : Int) := by rw [show ((p : Int) - j) = r by have := HQ.out; have := HM.out; omega]; exact IntWalk.i64_in _ (by omega)
              have hri2 : (r : Int) < (i : Int) := by omega
              have hri3 : 0 ≤ (r : Int) := by omega
              clear hBT hp hr HB4 HP4 HXV HQ HQ2
              go_wp2_with fail
              generalize w4.alloc (Obj.cells #[.int .i64 v.f0, .int .i64 v.f1] 46) = W at HBW HPW r0 r1 hx0 hx1 ⊢
              generalize w4.heap.size = N at r0 r1 ⊢
              go_quiet (fail)
              go_wp2
              go_roundw
              case rel =>
                first
                  | exact ⟨j + 1, f, by omega, by go_num, HPW.out.keep (Chg.of_below (S := fun _ => False) (pw_below_drewN (Below.refl _ _) _)) (by simp) (by simp), pw_below_drewN HBW.out _⟩
                  | ((repeat apply Exists.intro); refine ⟨?_, rfl⟩; exact ⟨j + 1, f, by omega, by go_num, HPW.out.keep (Chg.of_below (S := fun _ => False) (pw_below_drewN (Below.refl _ _) _)) (by simp) (by simp), pw_below_drewN HBW.out _⟩)
              case measure => simp [intOf]; omega
            · have e : k = j := by omega
              subst e
              rw [Nat.sub_self, List.take_zero] at HP
              go_wp2_with fail
              refine (pop_none B R k f _ HP.out).mono ?_
              rintro e w4 ⟨rfl, hp, hc⟩
              have HB4 : Hid (Below w.heap.size w w4) := hc.onto HB.out (Nat.le_refl _) HN.out
              have HPW : Hid (P (w4.alloc (Obj.cells #[.int .i64 0, .int .i64 0] 46)) B R k f []) := hp.keep ((Chg.refl (fun _ => False) w4).alloc _) (by simp) (by simp)
              have HBW : Hid (Below w.heap.size w (w4.alloc (Obj.cells #[.int .i64 0, .int .i64 0] 46))) := ((Chg.refl (fun _ => False) w4).alloc _).onto HB4.out (Nat.le_refl _) (by simp)
              have hBT : Blk (w4.alloc (Obj.cells #[.int .i64 0, .int .i64 0] 46)) w4.heap.size #[.int .i64 0, .int .i64 0] 46 := Blk.new _ _ _
              have r0 := hBT.cell (j := 0) rfl
              have r1 := hBT.cell (j := 1) rfl
              clear hp hc HP HB HB4 hBT
              go_wp2_with fail
              refine (len B R k f [] _ HPW.out).mono ?_
              rintro e w5 ⟨rfl, rfl⟩
              go_wp2
              go_ret
              exact ⟨rfl, HBW.out⟩
theorem walk (l : Int) (A : Option Addr) (len cap : Nat) (xs : List S46) (w : World) (h1 : (Lit.int .u8 l).wf = true) (hr : Kd.C k46 w A len xs) (hcap : len ≤ cap) (_ : ∀ z ∈ xs, True) :
    Calls Try.prog 10 #[.int .u8 l, .slice A len cap] w fun e w' => e = .returned (.bool true) ∧ Below w.heap.size w w' := by
  have e := Kd.C_len hr
  subst e
  by_cases hbig : 60 < xs.length
  · exact walk_long l A xs.length cap w hbig
  · have hb : 0 ≤ l ∧ l ≤ 255 := by
      simp only [Lit.wf, Bool.and_eq_true, decide_eq_true_eq] at h1
      exact ⟨h1.1, h1.2⟩
    obtain ⟨l', rfl⟩ := Int.eq_ofNat_of_zero_le hb.1
    exact walk_short l' A cap xs w hr hcap (by omega) (by omega)
end Go.Proofs.Ytfkbijkmdnieiaa.PileItems
