/- The law on lines answers true, at any octets. No conditions. -/
import Derived.Test.YtddmlhcjbifkoaaDoorWords3
import Derived.Test.YtddmlhcjbifkoaaDoorPWordsLinesx2
import Derived.Test.YtddmlhcjbifkoaaDoorShelfL
import Derived.Lib.SplitLaws
import Derived.Shelf.Vars
namespace Go.Proofs.YtddmlhcjbifkoaaDoor.Words
open Go.RowKit Go.Proofs.YtddmlhcjbifkoaaDoor.Mem Go.Proofs.YtddmlhcjbifkoaaDoorW.PrintWords
open Go.Proofs.YtddmlhcjbifkoaaDoor.PWordsJoins
open Go.Proofs.YtddmlhcjbifkoaaDoor.PWordsLines (whilomref20_Lines.l0 whilomref20_Lines.f whilomref20_Lines.calls)

def linesGo : List UInt8 → List UInt8 → List (List UInt8)
  | cur, [] => [cur]
  | cur, b :: t => if b = 10 then cur :: linesGo [] t else linesGo (cur ++ [b]) t
def linesOf (s : ByteArray) : List ByteArray := (linesGo [] s.data.toList).map mk

theorem lines_len (l : List UInt8) : ∀ cur, (linesGo cur l).length ≤ l.length + 1 := by
  induction l with
  | nil => intro cur; simp [linesGo]
  | cons b l ih =>
    intro cur
    rw [linesGo]
    split
    · have := ih []; simp; omega
    · have := ih (cur ++ [b]); simp; omega

theorem lines_count (l : List UInt8) : ∀ cur, (linesGo cur l).length = l.count 10 + 1 := by
  induction l with
  | nil => intro cur; simp [linesGo]
  | cons b l ih =>
    intro cur
    rw [linesGo]
    by_cases h : b = 10
    · subst h; rw [if_pos rfl]; simp [ih []]
    · rw [if_neg h, ih, List.count_cons_of_ne (by simpa using h)]
theorem index_cons (b : UInt8) (l : List UInt8) : Lib.index (b :: l) [10] = if b = 10 then 0 else if Lib.index l [10] == -1 then -1 else Lib.index l [10] + 1 := by
  rw [Lib.index]
  by_cases h : b = 10
  · subst h; simp [List.isPrefixOf]
  · have : ([10] : List UInt8).isPrefixOf (b :: l) = false := by simp [List.isPrefixOf, Ne.symm h]
    rw [this, if_neg h]; simp

theorem miss_lines (l : List UInt8) : ∀ cur, l.count 10 = 0 → linesGo cur l = [cur ++ l] := by
  induction l with
  | nil => intro cur _; simp [linesGo]
  | cons b l ih =>
    intro cur h
    have hb : b ≠ 10 := by intro e; subst e; simp at h
    rw [List.count_cons_of_ne (by simpa using hb)] at h
    rw [linesGo, if_neg hb, ih _ h]
    simp
theorem hit_lines (l : List UInt8) : ∀ cur, 0 < l.count 10 → ∃ j : Nat, Lib.index l [10] = j ∧ linesGo cur l = (cur ++ l.take j) :: linesGo [] (l.drop (j + 1)) ∧ l.count 10 = (l.drop (j + 1)).count 10 + 1 := by
  induction l with
  | nil => intro cur h; simp at h
  | cons b l ih =>
    intro cur h
    by_cases hb : b = 10
    · subst hb
      refine ⟨0, by rw [index_cons]; simp, ?_, by simp⟩
      rw [linesGo, if_pos rfl]; simp
    · rw [List.count_cons_of_ne (by simpa using hb)] at h
      obtain ⟨j, h1, h2, h3⟩ := ih (cur ++ [b]) h
      refine ⟨j + 1, ?_, ?_, ?_⟩
      · rw [index_cons, if_neg hb, h1, if_neg (by simp)]; omega
      · rw [linesGo, if_neg hb, h2]; simp
      · rw [List.count_cons_of_ne (by simpa using hb), h3]; simp

theorem splitK_lines : ∀ (k : Nat) (l : List UInt8), l.count 10 = k → Lib.splitK [10] 0 k l = linesGo [] l := by
  intro k
  induction k with
  | zero => intro l h; rw [Lib.splitK, miss_lines l [] h]; simp
  | succ k ih =>
    intro l h
    obtain ⟨j, h1, h2, h3⟩ := hit_lines l [] (by omega)
    rw [Lib.splitK, h1, if_neg (by simp), h2, ← ih (l.drop (j + 1)) (by omega)]
    simp

theorem splitB_lines (s : ByteArray) : Lib.splitB ⟨#[10]⟩ 0 (Lib.countB s ⟨#[10]⟩) s = linesOf s := by
  have hd := Lib.splitB_data ⟨#[10]⟩ 0 (Lib.countB s ⟨#[10]⟩) s
  have hc : Lib.countB s ⟨#[10]⟩ = s.data.toList.count 10 := Lib.count_one 10 s.data.toList
  have hk := splitK_lines (Lib.countB s ⟨#[10]⟩) s.data.toList hc.symm
  unfold linesOf
  rw [← hk]
  have e : (⟨#[10]⟩ : ByteArray).data.toList = [10] := rfl
  rw [e] at hd
  rw [← hd, List.map_map]
  conv => lhs; rw [← List.map_id (Lib.splitB _ _ _ s)]
  apply List.map_congr_left
  intro x _
  exact (mk_data x).symm

theorem ext_is (s : ByteArray) (a b : Nat) : s.extract a b = mk ((s.data.toList.drop a).take (b - a)) := by
  apply Go.WideShapes.bytes_inj
  rw [Lib.extract_data, mk_toList]

theorem lines_go (s : ByteArray) (hs : s.size ≤ 2000) : ∀ (d i fr : Nat) (out : List ByteArray), i + d = s.size → fr ≤ i → out.length ≤ i →
    whilomref20_Lines.l0 (d + 2) s out (fr : Int) (i : Int) = some (out ++ (linesGo ((s.data.toList.drop fr).take (i - fr)) (s.data.toList.drop i)).map mk) := by
  have hlen : s.data.toList.length = s.size := by simp
  intro d
  induction d with
  | zero =>
    intro i fr out hi hf ho
    have e : s.data.toList.drop i = [] := by rw [List.drop_eq_nil_iff]; omega
    rw [whilomref20_Lines.l0, if_pos (by omega), if_pos (by omega), if_pos (by omega), if_pos (by omega), if_pos (by omega), up_ i (by omega), whilomref20_Lines.l0, if_neg (by omega), e, Int.toNat_natCast, Int.toNat_natCast, ext_is]
    simp [linesGo]
  | succ d ih =>
    intro i fr out hi hf ho
    have hlt : i < s.data.toList.length := by omega
    obtain ⟨c, hcx⟩ : ∃ c, s.data.toList[i]? = some c := ⟨_, List.getElem?_eq_getElem hlt⟩
    have hcx2 := (List.getElem?_eq_some_iff.1 hcx).2
    have hdr : s.data.toList.drop i = c :: s.data.toList.drop (i + 1) := by rw [List.drop_eq_getElem_cons hlt]; congr 1
    have hbt := bt_is s i c hcx
    rw [whilomref20_Lines.l0, if_pos (by omega), if_neg (by omega), if_pos (by omega), if_pos (by omega), hbt, hdr, linesGo]
    by_cases hc : c = 10
    · subst hc
      rw [if_pos rfl, if_pos (by rfl), if_pos (by omega), if_pos (by omega), if_pos (by omega), up_ i (by omega), Int.toNat_natCast, Int.toNat_natCast, ext_is]
      rw [ih (i + 1) (i + 1) (out ++ [mk ((s.data.toList.drop fr).take (i - fr))]) (by omega) (Nat.le_refl _) (by simp; omega)]
      simp
    · have hne : ¬ (c.toNat : Int) = 10 := by
        intro h
        apply hc
        apply UInt8.toNat_inj.1
        have : c.toNat = 10 := by omega
        rw [this]; rfl
      rw [if_neg hc, if_neg hne, up_ i (by omega), ih (i + 1) fr out (by omega) (by omega) (by omega)]
      have ht : (s.data.toList.drop fr).take (i + 1 - fr) = (s.data.toList.drop fr).take (i - fr) ++ [c] := by
        have h1 : i - fr < (s.data.toList.drop fr).length := by rw [List.length_drop]; omega
        rw [show i + 1 - fr = (i - fr) + 1 by omega, List.take_succ_eq_append_getElem h1]
        congr 2
        rw [List.getElem_drop]
        simp only [show fr + (i - fr) = i by omega]
        exact hcx2
      rw [ht]
theorem lines_ev (s : ByteArray) (hs : s.size ≤ 2000) : ∃ K, whilomref20_Lines.f K s = some (linesOf s) := by
  refine ⟨s.size + 2, ?_⟩
  have := lines_go s hs s.size 0 0 [] (by omega) (by omega) (by simp)
  unfold whilomref20_Lines.f
  simpa [linesOf] using this

/-- The library's MaxLen holds some number. -/
def Some3 (w : World) : Prop := ∃ m : Int, w.cell? ⟨3, 0, none⟩ = some (.int .i64 m)
theorem Some3.step {w w' : World} (h : Some3 w) (hb : Below w.heap.size w w') : Some3 w' := by
  obtain ⟨m, h⟩ := h
  exact ⟨m, (hb.cell (p := ⟨3, 0, none⟩) (World.block_lt_of_cell? w _ h)).trans h⟩

set_option maxRecDepth 100000 in
set_option maxHeartbeats 1000000 in
theorem lines (A : Option Addr) (c : Nat) (xs : List Int) (w : World) (hr : Kd.C (Kd.int .u8) w A xs.length xs) (hl : xs.length ≤ 2000) (hsz : (strOfNums xs).size = xs.length) (h3 : Some3 w) :
    Calls Tryd.prog 22 #[.slice A xs.length c] w fun e w' => ∃ A' c', e = .returned (.slice A' (linesOf (strOfNums xs)).length c') ∧ (linesOf (strOfNums xs)).length ≤ c' ∧ Kd.C Kd.string w' A' (linesOf (strOfNums xs)).length (linesOf (strOfNums xs)) ∧ Below w.heap.size w w' := by
  have hcv := Kd.C_string (P := Tryd.prog) (src := 36) (dst := 9) (e := 5) (c := c) Tryd.underlying36 Tryd.underlying5 Tryd.underlying9 hr
  obtain ⟨m, h3⟩ := h3
  have HSP := Lib.hid (Tryd.strings_Split (strOfNums xs) ⟨#[10]⟩ m w (by omega) h3 (by decide))
  generalize strOfNums xs = s at *
  have HL : Hid ((linesOf s).length ≤ 2001) := Lib.hid (by
    unfold linesOf
    rw [List.length_map]
    have := lines_len s.data.toList []
    have e : s.data.toList.length = s.size := by simp
    omega)
  have HE := Lib.hid (splitB_lines s)
  have HN : Hid (Lib.countB s ⟨#[10]⟩ + 1 = (linesOf s).length) := Lib.hid (by
    have hc : Lib.countB s ⟨#[10]⟩ = s.data.toList.count 10 := Lib.count_one 10 s.data.toList
    rw [hc]; unfold linesOf; rw [List.length_map, lines_count])
  clear hr h3 hsz
  go_enter Tryd.func22, Tryd.ntmps22
  go_wp2_with fail
  refine (HSP.out).mono ?_
  rintro e w' ⟨rfl, hw'⟩
  rw [HN.out]
  rw [HE.out] at hw'
  have HB : Hid (Below w.heap.size w w') := Lib.hid (by subst hw'; exact (Below.refl _ _).alloc (Nat.le_refl _) _)
  have HC : Hid (Kd.C Kd.string w' (some ⟨w.heap.size, 0, none⟩) (linesOf s).length (linesOf s)) := Lib.hid (by subst hw'; exact c_cells (Blk.new _ _ _) (by have := HL.out; omega))
  clear hw' hcv
  go_wp2
  go_ret
  exact ⟨_, _, rfl, Nat.le_refl _, HC.out, HB.out⟩

theorem nums_size (xs : List Int) : (strOfNums xs).size = xs.length := by simp [strOfNums, ByteArray.size]

set_option maxRecDepth 100000 in
set_option maxHeartbeats 2000000 in
theorem walk_lines {p : Int → Prop} (A : Option Addr) (len cap : Nat) (xs : List Int) (w : World) (hr : Kd.C (Kd.int .u8) w A len xs) (_ : len ≤ cap) (_ : ∀ z ∈ xs, p z) (hh : Tab w ∧ Some3 w) :
    Calls Tryd.prog 6 #[.slice A len cap] w fun e w' => e = .returned (.bool true) ∧ Below w.heap.size w w' := by
  have e0 := Kd.C_len hr
  subst e0
  have HT := Lib.hid hh.1; have H3 := Lib.hid hh.2; have HR := Lib.hid hr
  clear hh hr
  by_cases hbig : 2000 < xs.length
  · have hz : (2000 : Int) < (xs.length : Int) := by omega
    clear hbig
    go_enter Tryd.func6, Tryd.ntmps6
    go_wp2_with fail
    refine (awake _ HT.out).mono ?_
    rintro e w1 ⟨rfl, hb1⟩
    have HB1 := Lib.hid hb1; clear hb1
    go_wp2_with fail
    refine (awake _ (HT.out.step HB1.out)).mono ?_
    rintro e w2 ⟨rfl, hb2⟩
    have HB2 := Lib.hid hb2; clear hb2
    go_wp2_with fail
    go_ret
    exact ⟨rfl, HB1.out.trans (HB2.out.mono HB1.out.size)⟩
  · have hz : ¬ (2000 : Int) < (xs.length : Int) := by omega
    have hl : xs.length ≤ 2000 := by omega
    have hsz := nums_size xs
    obtain ⟨K, hK⟩ := lines_ev (strOfNums xs) (by omega)
    obtain ⟨K2, hK2⟩ := same_strs (linesOf (strOfNums xs)) (by
      unfold linesOf
      rw [List.length_map]
      have := lines_len (strOfNums xs).data.toList []
      have e : (strOfNums xs).data.toList.length = (strOfNums xs).size := by simp
      omega)
    have HK := Lib.hid hK; have HK2 := Lib.hid hK2; have HSZ := Lib.hid hsz
    clear hbig hK hK2 hsz
    go_enter Tryd.func6, Tryd.ntmps6
    go_wp2_with fail
    refine (awake _ HT.out).mono ?_
    rintro e w1 ⟨rfl, hb1⟩
    have HB1 := Lib.hid hb1; clear hb1
    have hcv1 := Kd.C_string (P := Tryd.prog) (src := 36) (dst := 9) (e := 5) (c := cap) Tryd.underlying36 Tryd.underlying5 Tryd.underlying9 (Kd.C_below HR.out HB1.out)
    have hli := lines A cap xs w1 (Kd.C_below HR.out HB1.out) hl HSZ.out (H3.out.step HB1.out)
    have HLI := Lib.hid hli
    have HCV : Hid (∀ wy, Below w.heap.size w wy → (convert 36 9 (.slice A xs.length cap)).run Tryd.prog wy = .ok (.string (strOfNums xs)) wy) := Lib.hid (fun wy hb => Kd.C_string (P := Tryd.prog) (src := 36) (dst := 9) (e := 5) (c := cap) Tryd.underlying36 Tryd.underlying5 Tryd.underlying9 (Kd.C_below HR.out hb))
    clear hli
    generalize strOfNums xs = s at *
    go_wp2_with fail
    refine (HLI.out).mono ?_
    rintro e w2 ⟨A2, c2, rfl, hc2, hC2, hb⟩
    have HB2 : Hid (Below w.heap.size w w2) := Lib.hid (HB1.out.trans (hb.mono HB1.out.size))
    have HC2 := Lib.hid hC2
    clear hb hC2 hcv1
    go_wp2_with fail
    refine (whilomref20_Lines.calls K s (linesOf s) _ HK.out).mono ?_
    rintro e w3 ⟨v3, rfl, hR, hb⟩
    obtain ⟨A3, c3, rfl, hc3, hC3⟩ := Kd.R_reads hR
    have HB3 : Hid (Below w.heap.size w w3) := Lib.hid (HB2.out.trans (hb.mono HB2.out.size))
    have HC23 := Lib.hid (Kd.C_below HC2.out hb)
    have HC3 := Lib.hid hC3
    clear hb hR hC3
    go_wp2_with fail
    refine (whilomref20_Same.calls K2 A2 c2 (linesOf s) A3 c3 (linesOf s) true _ HC23.out hc2 HC3.out hc3 HK2.out).mono ?_
    rintro e w4 ⟨rfl, hd⟩
    have HB4 : Hid (Below w.heap.size w w4) := Lib.hid (HB3.out.trans (hd.below.mono HB3.out.size))
    clear hd
    have hcv4 := HCV.out _ HB4.out
    go_wp2_with fail
    go_ret
    exact ⟨rfl, HB4.out⟩
end Go.Proofs.YtddmlhcjbifkoaaDoor.Words
