/- Which octets are wrong; words.Split of the program. No conditions. -/
import Derived.Test.YtddmlhcjbifkoaaDoorPWordsJoinsx1
import Derived.Test.YtddmlhcjbifkoaaDoorShelfW
import Derived.Test.YtddmlhcjbifkoaaDoorMem
import Derived.Lib.Hide
import Derived.Lib.ConvBytes
import Derived.KernelRfl
namespace Go.Proofs.YtddmlhcjbifkoaaDoor.Words
open Go.RowKit Go.Proofs.YtddmlhcjbifkoaaDoor.Mem Go.Proofs.YtddmlhcjbifkoaaDoorW.PrintWords
open Go.Proofs.YtddmlhcjbifkoaaDoor.PWordsJoins

/-- An octet that may not be. -/
def bad (c : UInt8) : Bool := decide (c.toNat < 32) || decide (126 < c.toNat)

set_option maxRecDepth 100000 in
theorem wrong_no (c : UInt8) (w : World) (h : bad c = false) : Calls Tryd.prog 46 #[.int .u8 c.toNat] w fun e w' => e = .returned (.bool false) ∧ w = w' := by
  unfold bad at h
  simp only [Bool.or_eq_false_iff, decide_eq_false_iff_not] at h
  obtain ⟨h1, h2⟩ := h
  have g1 : ¬ ((c.toNat : Int) < 32) := by omega
  have g2 : ¬ (126 < (c.toNat : Int)) := by omega
  clear h1 h2
  go_enter Tryd.func46, Tryd.ntmps46
  go_wp2
  go_ret
  exact ⟨by simp, rfl⟩
set_option maxRecDepth 100000 in
theorem wrong_yes (c : UInt8) (w : World) (h : bad c = true) : Calls Tryd.prog 46 #[.int .u8 c.toNat] w fun e w' => e = .returned (.bool true) ∧ w = w' := by
  unfold bad at h
  simp only [Bool.or_eq_true, decide_eq_true_eq] at h
  by_cases g1 : ((c.toNat : Int) < 32)
  · clear h
    go_enter Tryd.func46, Tryd.ntmps46
    go_wp2
    go_ret
    exact ⟨by simp, rfl⟩
  · have g2 : 126 < (c.toNat : Int) := by omega
    clear h
    go_enter Tryd.func46, Tryd.ntmps46
    go_wp2
    go_ret
    exact ⟨by simp, rfl⟩

/-- The row of octets in a block. -/
def Octs (w : World) (g : Nat) (l : List UInt8) : Prop := ∀ (j : Nat) (c : UInt8), l[j]? = some c → w.cell? ⟨g, j, none⟩ = some (.int .u8 c.toNat)

set_option maxRecDepth 100000 in
set_option maxHeartbeats 1000000 in
theorem index_no (g cap : Nat) (l : List UInt8) (w : World) (ho : Octs w g l) (hl : l.length ≤ 1000) (hb : ∀ (j : Nat) (c : UInt8), l[j]? = some c → bad c = false) :
    Calls Tryd.prog 67 #[.slice (some ⟨g, 0, none⟩) l.length cap, .func (.func 46) #[] #[]] w fun e w' => e = .returned (.int .i64 (-1)) ∧ w = w' := by
  have HO := Lib.hid ho; have HB := Lib.hid hb
  clear ho hb
  go_enter Tryd.func67, Tryd.ntmps67
  go_wp2_with fail
  go_loopw [8] (fun s8 wr => ∃ i : Nat, i ≤ l.length ∧ s8 = .int .i64 i ∧ w = wr) (fun s8 _ => l.length - (intOf s8).toNat)
  case atStart => exact ⟨0, by omega, rfl, rfl⟩
  case round =>
    obtain ⟨i, hi, rfl, rfl⟩ := hrel
    by_cases hlt : i < l.length
    · obtain ⟨c, hc⟩ : ∃ c, l[i]? = some c := ⟨_, List.getElem?_eq_getElem hlt⟩
      have hcell := HO.out i c hc
      have HG := Lib.hid (HB.out i c hc)
      clear hc
      go_wp2_with fail
      refine (wrong_no c _ HG.out).mono ?_
      rintro e w' ⟨rfl, rfl⟩
      go_wp2_with fail
      go_roundw
      case rel => exact ⟨i + 1, by omega, by go_num, by first | rfl | trivial⟩
      case measure => simp [intOf]; omega
    · go_wp2_with fail
      go_ret
      exact ⟨rfl, rfl⟩
set_option maxRecDepth 100000 in
set_option maxHeartbeats 1000000 in
theorem index_yes (g cap n : Nat) (l : List UInt8) (x : UInt8) (w : World) (ho : Octs w g l) (hl : l.length ≤ 1000) (hb : ∀ (j : Nat) (c : UInt8), j < n → l[j]? = some c → bad c = false) (hx : l[n]? = some x) (hy : bad x = true) :
    Calls Tryd.prog 67 #[.slice (some ⟨g, 0, none⟩) l.length cap, .func (.func 46) #[] #[]] w fun e w' => e = .returned (.int .i64 n) ∧ w = w' := by
  have HO := Lib.hid ho; have HB := Lib.hid hb; have HX := Lib.hid hx; have HY := Lib.hid hy
  have hn : n < l.length := (List.getElem?_eq_some_iff.1 hx).1
  clear ho hb hx hy
  go_enter Tryd.func67, Tryd.ntmps67
  go_wp2_with fail
  go_loopw [8] (fun s8 wr => ∃ i : Nat, i ≤ n ∧ s8 = .int .i64 i ∧ w = wr) (fun s8 _ => n - (intOf s8).toNat)
  case atStart => exact ⟨0, by omega, rfl, rfl⟩
  case round =>
    obtain ⟨i, hi, rfl, rfl⟩ := hrel
    have hlt : i < l.length := by omega
    obtain ⟨c, hc⟩ : ∃ c, l[i]? = some c := ⟨_, List.getElem?_eq_getElem hlt⟩
    have hcell := HO.out i c hc
    by_cases hin : i < n
    · have HG := Lib.hid (HB.out i c hin hc)
      clear hc
      go_wp2_with fail
      refine (wrong_no c _ HG.out).mono ?_
      rintro e w' ⟨rfl, rfl⟩
      go_wp2_with fail
      go_roundw
      case rel => exact ⟨i + 1, by omega, by go_num, by first | rfl | trivial⟩
      case measure => simp [intOf]; omega
    · have e : i = n := by omega
      subst e
      have HG : Hid (bad c = true) := Lib.hid (by have := HX.out; rw [hc] at this; cases this; exact HY.out)
      clear hc
      go_wp2_with fail
      refine (wrong_yes c _ HG.out).mono ?_
      rintro e w' ⟨rfl, rfl⟩
      go_wp2_with fail
      go_ret
      exact ⟨rfl, rfl⟩

theorem first_bad (l : List UInt8) : (∀ (j : Nat) (c : UInt8), l[j]? = some c → bad c = false) ∧ l.any bad = false ∨ ∃ n x, (∀ (j : Nat) (c : UInt8), j < n → l[j]? = some c → bad c = false) ∧ l[n]? = some x ∧ bad x = true ∧ l.any bad = true := by
  induction l with
  | nil => exact Or.inl ⟨by simp, rfl⟩
  | cons a l ih =>
    cases ha : bad a
    · rcases ih with ⟨h1, h2⟩ | ⟨n, x, h1, h2, h3, h4⟩
      · refine Or.inl ⟨fun j c hj => ?_, by simp [ha, h2]⟩
        cases j with
        | zero => simp at hj; subst hj; exact ha
        | succ j => exact h1 j c (by simpa using hj)
      · refine Or.inr ⟨n + 1, x, fun j c hj hc => ?_, by simpa using h2, h3, by simp [h4]⟩
        cases j with
        | zero => simp at hc; subst hc; exact ha
        | succ j => exact h1 j c (by omega) (by simpa using hc)
    · exact Or.inr ⟨0, a, fun j c hj => by omega, rfl, ha, by simp [ha]⟩

set_option maxRecDepth 100000 in
set_option maxHeartbeats 400000 in
theorem contains (g cap : Nat) (l : List UInt8) (w : World) (ho : Octs w g l) (hl : l.length ≤ 1000) :
    Calls Tryd.prog 45 #[.slice (some ⟨g, 0, none⟩) l.length cap, .func (.func 46) #[] #[]] w fun e w' => e = .returned (.bool (l.any bad)) ∧ w = w' := by
  have HO := Lib.hid ho; clear ho
  rcases first_bad l with ⟨h1, h2⟩ | ⟨n, x, h1, h2, h3, h4⟩
  · rw [h2]
    have H1 := Lib.hid h1; clear h1 h2
    go_enter Tryd.func45, Tryd.ntmps45
    go_wp2_with fail
    refine (index_no g cap l w HO.out hl H1.out).mono ?_
    rintro e w' ⟨rfl, rfl⟩
    go_wp2
    go_ret
    exact ⟨rfl, rfl⟩
  · rw [h4]
    have hn : n < l.length := (List.getElem?_eq_some_iff.1 h2).1
    have H1 := Lib.hid (And.intro h1 (And.intro h2 h3)); clear h1 h2 h3 h4
    go_enter Tryd.func45, Tryd.ntmps45
    go_wp2_with fail
    refine (index_yes g cap n l x w HO.out hl H1.out.1 H1.out.2.1 H1.out.2.2).mono ?_
    rintro e w' ⟨rfl, rfl⟩
    go_wp2
    go_ret
    exact ⟨by simp, rfl⟩

/-- A line's words, or the error. -/
def wordsOf (s : ByteArray) : List ByteArray := (Lib.fields s.data.toList).map fun l => ⟨l.toArray⟩
def splitS (s : ByteArray) : List ByteArray × Int :=
  if 200 < s.size then ([], 32) else if s.data.toList.any bad then ([], 30) else if 8 < (wordsOf s).length then ([], 32) else (wordsOf s, 0)

abbrev Tab (w : World) : Prop := Lib.TabIs Tryd.prog w "strings.asciiSpace" .u8 Lib.asciiSpaceTab
theorem Tab.step {w w' : World} (h : Tab w) (hb : Below w.heap.size w w') : Tab w' := by
  unfold Tab Lib.TabIs World.var? at h ⊢
  cases hg : Tryd.prog.globalNamed "strings.asciiSpace" with
  | none => simp [hg] at h
  | some g =>
    simp only [hg, Option.bind_some] at h ⊢
    have hlt : g < w.heap.size := by
      rcases Nat.lt_or_ge g w.heap.size with h' | h'
      · exact h'
      · simp [Array.getElem?_eq_none h'] at h
    rw [hb.block g hlt]
    exact h

/-- What Split leaves. -/
def SplitOut (s : ByteArray) (w : World) (e : Ending) (w' : World) : Prop := ∃ A c, e = .returned (.tuple #[.slice A (splitS s).1.length c, .int .i64 (splitS s).2]) ∧ (splitS s).1.length ≤ c ∧ Kd.C Kd.string w' A (splitS s).1.length (splitS s).1 ∧ Below w.heap.size w w'

theorem below_bytes (w : World) (e : TypeId) (s : ByteArray) : Below w.heap.size w (Lib.bytesWorld w e s) := by
  refine ⟨rfl, rfl, rfl, by rw [Lib.bytesWorld_size]; omega, fun k hk => Lib.bytesWorld_at_old w e s k hk⟩

theorem octs_bytes (w : World) (e : TypeId) (s : ByteArray) : Octs (Lib.bytesWorld w e s) w.heap.size s.data.toList := by
  intro j c hc
  have hj : j < s.size := by
    have := (List.getElem?_eq_some_iff.1 hc).1
    simpa using this
  rw [Lib.bytesWorld_cell w e s j hj, List.getD, hc]; rfl

theorem go_len : ∀ (l cur : List UInt8), (Lib.fieldsGo cur l).length ≤ l.length + 1
  | [], cur => by unfold Lib.fieldsGo; split <;> simp
  | b :: l, cur => by
    unfold Lib.fieldsGo
    have h1 := go_len l []
    have h2 := go_len l (cur ++ [b])
    split
    · split <;> simp <;> omega
    · simp; omega
theorem fields_len (l : List UInt8) : (Lib.fields l).length ≤ l.length + 1 := go_len l []
theorem nil_out (w w' : World) (s : ByteArray) (n : Int) (hb : Below w.heap.size w w') (h : splitS s = ([], n)) : SplitOut s w (.returned (.tuple #[.slice none 0 0, .int .i64 n])) w' := by
  unfold SplitOut
  rw [h]
  exact ⟨none, 0, rfl, Nat.le_refl _, Kd.C_nil _ _, hb⟩

theorem c_cells {w : World} {g : Nat} {l : List ByteArray} {t : TypeId} (h : w.heap[g]? = some (.cells (l.map Value.string).toArray t (0, 0))) (hl : l.length ≤ 9223372036854775807) : Kd.C Kd.string w (some ⟨g, 0, none⟩) l.length l := by
  refine ⟨rfl, hl, fun _ => ⟨_, rfl, fun j p hj => ⟨[.string p], rfl, rfl, fun i u hu => ?_⟩⟩⟩
  match i, hu with
  | 0, hu =>
    simp at hu; subst hu
    have hj2 := (List.getElem?_eq_some_iff.1 hj).1
    by_cases e : j = 0
    · subst e; simp [Kd.string, Kd.scalar, Addr.add, World.cell?, h, hj]
    · simp [Kd.string, Kd.scalar, Addr.add, World.cell?, h, hj, e]

set_option maxRecDepth 100000 in
set_option maxHeartbeats 1000000 in
theorem split (s : ByteArray) (w : World) (hs : s.size < 4294967281) (ht : Tab w) : Calls Tryd.prog 17 #[.string s] w (SplitOut s w) := by
  have HT := Lib.hid ht; clear ht
  by_cases h1 : 200 < s.size
  · have hz : (200 : Int) < (s.size : Int) := by omega
    have HF : Hid (splitS s = ([], 32)) := Lib.hid (by unfold splitS; rw [if_pos h1])
    clear h1
    go_enter Tryd.func17, Tryd.ntmps17
    go_wp2_with fail
    go_ret2
    exact nil_out _ _ _ _ (Below.refl _ _) HF.out
  · have hz : ¬ ((200 : Int) < (s.size : Int)) := by omega
    have hl : s.data.toList.length ≤ 1000 := by have : s.data.toList.length = s.size := by simp
                                                omega
    have hcv := Lib.run_convert_string_bytes (P := Tryd.prog) w 9 36 5 s (u := .string) Tryd.underlying9 Tryd.underlying36 Tryd.underlying5
    have HO := Lib.hid (octs_bytes w 5 s)
    have HBW := Lib.hid (below_bytes w 5 s)
    have hlen : s.data.toList.length = s.size := by simp
    have hcon := contains w.heap.size (grownCap w s.size 0 5) s.data.toList _ HO.out hl
    rw [hlen] at hcon
    have HCON := Lib.hid hcon
    have HLN := Lib.hid hlen
    have HH1 := Lib.hid h1
    clear hlen hcon h1
    generalize Lib.bytesWorld w 5 s = wb at *
    generalize grownCap w s.size 0 5 = gc at *
    cases hb : s.data.toList.any bad
    · have HF : Hid (splitS s = if 8 < (wordsOf s).length then ([], 32) else (wordsOf s, 0)) := Lib.hid (by unfold splitS; rw [if_neg HH1.out, hb, if_neg (by simp)])
      have HAS : Hid (∀ (j : Nat) b, s.data.toList[j]? = some b → b.toNat < 128) := Lib.hid (by
        intro j b hj
        have := List.any_eq_false.1 hb b (List.mem_of_getElem? hj)
        unfold bad at this
        simp at this
        omega)
      rw [hb] at HCON
      clear hb
      go_enter Tryd.func17, Tryd.ntmps17
      go_wp2_with fail
      refine (HCON.out).mono ?_
      rintro e w' ⟨rfl, rfl⟩
      clear hcv
      go_wp2_with fail
      refine (Tryd.strings_Fields_laid s _ hs HAS.out (HT.out.step HBW.out)).mono ?_
      rintro e w' ⟨rfl, hw'⟩
      have e1 : (Lib.fields s.data.toList).length = (wordsOf s).length := by unfold wordsOf; rw [List.length_map]
      have e2 : ((Lib.fields s.data.toList).map fun l => Value.string ⟨l.toArray⟩) = (wordsOf s).map Value.string := by unfold wordsOf; rw [List.map_map]; rfl
      have HWL : Hid ((wordsOf s).length ≤ 1000) := Lib.hid (by rw [← e1]; have := fields_len s.data.toList; have := HLN.out; omega)
      rw [e1]
      rw [e2] at hw'
      clear e1 e2
      have HB' : Hid (Below wb.heap.size wb w') := Lib.hid (by subst hw'; exact (Below.refl _ _).alloc (Nat.le_refl _) _)
      have HC' : Hid (Kd.C Kd.string w' (some ⟨wb.heap.size, 0, none⟩) (wordsOf s).length (wordsOf s)) := Lib.hid (by subst hw'; exact c_cells (Blk.new _ _ _) (by have := HWL.out; omega))
      have HBW2 : Hid (Below w.heap.size w w') := Lib.hid (HBW.out.trans (HB'.out.mono HBW.out.size))
      clear hw'
      generalize wordsOf s = ws at *
      by_cases h8 : 8 < ws.length
      · have hz8 : (8 : Int) < (ws.length : Int) := by omega
        rw [if_pos h8] at HF
        clear h8
        go_wp2_with fail
        go_ret2
        exact nil_out _ _ _ _ HBW2.out HF.out
      · have hz8 : ¬ (8 : Int) < (ws.length : Int) := by omega
        rw [if_neg h8] at HF
        clear h8
        go_wp2_with fail
        go_ret2
        unfold SplitOut
        rw [HF.out]
        exact ⟨_, _, rfl, Nat.le_refl _, HC'.out, HBW2.out⟩
    · have HF : Hid (splitS s = ([], 30)) := Lib.hid (by unfold splitS; rw [if_neg HH1.out, hb, if_pos rfl])
      rw [hb] at HCON
      clear hb
      go_enter Tryd.func17, Tryd.ntmps17
      go_wp2_with fail
      refine (HCON.out).mono ?_
      rintro e w' ⟨rfl, rfl⟩
      go_wp2_with fail
      go_ret2
      exact nil_out _ _ _ _ HBW.out HF.out

theorem cell_str {A : Option Addr} {n : Nat} {xs : List ByteArray} {w : World} {i : Nat} {x : ByteArray} (h : Kd.C Kd.string w A n xs) (hx : xs[i]? = some x) : ∃ ad, A = some ad ∧ w.cell? (ad.add i) = some (.string x) := by
  have hi := (List.getElem?_eq_some_iff.1 hx).1
  have hn := Kd.C_len h
  obtain ⟨ad, hA, hc⟩ := h.2.2 (by omega)
  obtain ⟨cs, _, hk, hcell⟩ := hc i x hx
  have hk : cs = [.string x] := hk
  subst hk
  have := hcell 0 (.string x) rfl
  exact ⟨ad, hA, by simpa [Kd.string, Kd.scalar] using this⟩

set_option maxRecDepth 100000 in
set_option maxHeartbeats 1000000 in
theorem awake (w : World) (ht : Tab w) : Calls Tryd.prog 16 #[] w fun e w' => e = .returned (.bool true) ∧ Below w.heap.size w w' := by
  have HS : Hid (splitS ⟨#[32, 97, 32, 32, 98, 49, 32]⟩ = ([⟨#[97]⟩, ⟨#[98, 49]⟩], 0)) := Lib.hid (by decide +kernel)
  have HT := Lib.hid ht; clear ht
  go_enter Tryd.func16, Tryd.ntmps16
  go_wp2_with fail
  refine (split ⟨#[32, 97, 32, 32, 98, 49, 32]⟩ _ (by decide) HT.out).mono ?_
  rintro e w' hout
  unfold SplitOut at hout
  rw [HS.out] at hout
  obtain ⟨A, c, rfl, hc, hC, hb⟩ := hout
  have HB := Lib.hid hb
  obtain ⟨ad, rfl, h0⟩ := cell_str (i := 0) hC rfl
  obtain ⟨ad', e', h1⟩ := cell_str (i := 1) hC rfl
  cases e'
  have h0' : w'.cell? ad = some (.string ⟨#[97]⟩) := by simpa [Addr.add] using h0
  have h1' : w'.cell? ⟨ad.block, ad.off + 1, none⟩ = some (.string ⟨#[98, 49]⟩) := by simpa [Addr.add] using h1
  clear hb hC h0 h1
  go_wp2
  go_ret
  exact ⟨rfl, HB.out⟩

theorem same_strs (l : List ByteArray) (hl : l.length ≤ 1000000) : ∃ K, whilomref20_Same.f K l l = some true := by
  have up : ∀ i : Nat, i ≤ 1000000 → wrap64 ((i : Int) + 1) = ((i + 1 : Nat) : Int) := fun i h => by unfold wrap64; omega
  have go : ∀ (d i : Nat), i + d = l.length → whilomref20_Same.l0 (d + 1) l l (i : Int) = some true := by
    intro d
    induction d with
    | zero =>
      intro i hi
      simp only [whilomref20_Same.l0]
      rw [if_neg (by omega)]
    | succ d ih =>
      intro i hi
      rw [whilomref20_Same.l0, if_pos (by omega), if_pos (by omega), if_pos (by omega), if_pos rfl, up i (by omega)]
      exact ih (i + 1) (by omega)
  refine ⟨l.length + 1, ?_⟩
  unfold whilomref20_Same.f
  rw [if_pos rfl]
  exact go l.length 0 (by omega)

def mk (l : List UInt8) : ByteArray := ⟨l.toArray⟩
/-- What is left to answer, from a place on. -/
def tailS (out : List ByteArray) (cur l : List UInt8) : List ByteArray × Int :=
  if l.any bad then ([], 30) else if 8 < (out ++ (Lib.fieldsGo cur l).map mk).length then ([], 32) else (out ++ (Lib.fieldsGo cur l).map mk, 0)
theorem bt_is (s : ByteArray) (i : Nat) (c : UInt8) (h : s.data.toList[i]? = some c) : bt s (i : Int) = (c.toNat : Int) := by
  have hi : i < s.size := by have := (List.getElem?_eq_some_iff.1 h).1; simpa using this
  unfold bt
  rw [Int.toNat_natCast, dif_pos hi]
  have : s[i] = c := by
    have h2 := (List.getElem?_eq_some_iff.1 h).2
    rw [← h2]; simp; rfl
  rw [this]
theorem mk_size (l : List UInt8) : (mk l).size = l.length := by simp [mk, ByteArray.size]
theorem mk_toList (l : List UInt8) : (mk l).data.toList = l := by simp [mk]
theorem mk_data (s : ByteArray) : mk s.data.toList = s := by simp [mk]
theorem mk_snoc (l : List UInt8) (s : ByteArray) (i : Nat) (c : UInt8) (h : s.data.toList[i]? = some c) : mk l ++ s.extract i (i + 1) = mk (l ++ [c]) := by
  have hi : i < s.data.toList.length := (List.getElem?_eq_some_iff.1 h).1
  have h2 := (List.getElem?_eq_some_iff.1 h).2
  have h3 : (s.data.toList.drop i).take 1 = [c] := by rw [List.drop_eq_getElem_cons hi, h2]; rfl
  apply ByteArray.ext
  apply Array.ext'
  rw [ByteArray.data_append, Array.toList_append]
  show l ++ (s.extract i (i + 1)).data.toList = l ++ [c]
  rw [← h3]
  congr 1
  simp

theorem ref_go (s : ByteArray) (hs : s.size ≤ 500) : ∀ (d i : Nat) (cur : List UInt8) (out : List ByteArray), i + d = s.size → out.length ≤ i → cur.length ≤ i →
    whilomref20_Split.l0 (2 * d + 3) s out (mk cur) (i : Int) = some (tailS out cur (s.data.toList.drop i)) := by
  have up : ∀ i : Nat, i ≤ 1000000 → wrap64 ((i : Int) + 1) = ((i + 1 : Nat) : Int) := fun i h => by unfold wrap64; omega
  have hlen : s.data.toList.length = s.size := by simp
  intro d
  induction d with
  | zero =>
    intro i cur out hi ho hc
    have e : s.data.toList.drop i = [] := by rw [List.drop_eq_nil_iff]; omega
    rw [e, whilomref20_Split.l0, if_pos (by omega), if_pos (by omega), whilomref20_Split.j1, if_pos rfl]
    unfold tailS Lib.fieldsGo
    simp only [List.any_nil, Bool.false_eq_true, if_false]
    by_cases hcur : cur = []
    · subst hcur
      rw [if_pos (by simp [mk]), up i (by omega), whilomref20_Split.l0, if_neg (by omega)]
      simp only [List.isEmpty_nil, if_true, List.map_nil, List.append_nil]
      by_cases h8 : 8 < out.length
      · rw [if_pos (by omega), if_pos h8]
      · rw [if_neg (by omega), if_neg h8]
    · rw [if_neg (by simpa [mk] using hcur), if_pos (by omega), up i (by omega), whilomref20_Split.l0, if_neg (by omega)]
      have he : cur.isEmpty = false := by cases cur <;> simp_all
      simp only [he, Bool.false_eq_true, if_false, List.map_cons, List.map_nil]
      by_cases h8 : 8 < (out ++ [mk cur]).length
      · rw [if_pos (by omega), if_pos h8]
      · rw [if_neg (by omega), if_neg h8]
  | succ d ih =>
    intro i cur out hi ho hc
    have hlt : i < s.data.toList.length := by omega
    obtain ⟨c, hcx⟩ : ∃ c, s.data.toList[i]? = some c := ⟨_, List.getElem?_eq_getElem hlt⟩
    have hdr : s.data.toList.drop i = c :: s.data.toList.drop (i + 1) := by rw [List.drop_eq_getElem_cons hlt]; congr 1; exact (List.getElem?_eq_some_iff.1 hcx).2
    have hbt := bt_is s i c hcx
    have hc255 : c.toNat < 256 := c.toNat_lt
    rw [hdr, show 2 * (d + 1) + 3 = (2 * d + 3) + 1 + 1 by omega, whilomref20_Split.l0, if_pos (by omega), if_neg (by omega), if_pos (by omega), if_pos (by omega), whilomref20_Split.j1, hbt]
    by_cases h32 : c.toNat = 32
    · have hbad : bad c = false := by unfold bad; simp; omega
      have hsp : Lib.isSp c = true := by
        have : c = 32 := by apply UInt8.toNat_inj.1; rw [h32]; rfl
        subst this; decide
      rw [if_pos (by simp; omega)]
      have ht : tailS out cur (c :: s.data.toList.drop (i + 1)) = tailS (if cur = [] then out else out ++ [mk cur]) [] (s.data.toList.drop (i + 1)) := by
        unfold tailS
        rw [List.any_cons, hbad, Bool.false_or, Lib.fieldsGo, if_pos hsp]
        by_cases hcur : cur = []
        · subst hcur; simp
        · have he : cur.isEmpty = false := by cases cur <;> simp_all
          simp only [he, Bool.false_eq_true, if_false, hcur, List.map_cons, List.append_assoc, List.singleton_append]
      rw [ht]
      by_cases hcur : cur = []
      · subst hcur
        rw [if_pos (by simp [mk]), up i (by omega), if_pos rfl]
        exact ih (i + 1) [] out (by omega) (by omega) (by simp)
      · rw [if_neg (by simpa [mk] using hcur), if_pos (by omega), up i (by omega), if_neg hcur]
        exact ih (i + 1) [] (out ++ [mk cur]) (by omega) (by simp; omega) (by simp)
    · rw [if_neg (by simp; omega), if_pos (by omega), if_pos (by omega)]
      by_cases hlo : (c.toNat : Int) < 33
      · have hbad : bad c = true := by unfold bad; simp; omega
        rw [if_pos hlo]
        unfold tailS
        rw [List.any_cons, hbad, Bool.true_or, if_pos rfl]
      · rw [if_neg hlo]
        by_cases hhi : (c.toNat : Int) > 126
        · have hbad : bad c = true := by unfold bad; simp; omega
          rw [if_pos hhi]
          unfold tailS
          rw [List.any_cons, hbad, Bool.true_or, if_pos rfl]
        · have hbad : bad c = false := by unfold bad; simp; omega
          have hsp : Lib.isSp c = false := by
            unfold Lib.isSp
            simp only [Bool.or_eq_false_iff, beq_eq_false_iff_ne, ne_eq]
            refine ⟨⟨⟨⟨⟨?_, ?_⟩, ?_⟩, ?_⟩, ?_⟩, ?_⟩ <;> (intro e; subst e; revert hlo h32; decide)
          rw [if_neg hhi, up i (by omega), if_pos (by omega), if_pos (by omega), Int.toNat_natCast, Int.toNat_natCast, mk_snoc cur s i c hcx, if_pos (by
            rw [mk_size]
            have : (s.extract i (i + 1)).size ≤ 1 := by rw [ByteArray.size_extract]; omega
            omega)]
          have ht : tailS out cur (c :: s.data.toList.drop (i + 1)) = tailS out (cur ++ [c]) (s.data.toList.drop (i + 1)) := by
            unfold tailS
            rw [List.any_cons, hbad, Bool.false_or, Lib.fieldsGo]
            simp only [hsp, Bool.false_eq_true, if_false]
          rw [ht]
          exact ih (i + 1) (cur ++ [c]) out (by omega) (by omega) (by simp; omega)

theorem ref_split (s : ByteArray) (hs : s.size ≤ 500) : ∃ K, whilomref20_Split.f K s = some (splitS s) := by
  refine ⟨2 * s.size + 3, ?_⟩
  unfold whilomref20_Split.f splitS
  by_cases h : 200 < s.size
  · rw [if_pos (by omega), if_pos h]
  · rw [if_neg (by omega), if_neg h]
    have := ref_go s hs s.size 0 [] [] (by omega) (by simp) (by simp)
    rw [List.drop_zero] at this
    exact this

theorem tab_below {w w' : World} (h : Tab w) (hb : Below w.heap.size w w') : Tab w' := h.step hb

set_option maxRecDepth 100000 in
set_option maxHeartbeats 1000000 in
/-- The law on any line. -/
theorem walk_splits (s : ByteArray) (w : World) (hs : s.size ≤ 140737488351232) (ht : Tab w) : Calls Tryd.prog 3 #[.string s] w fun e w' => e = .returned (.bool true) ∧ Below w.heap.size w w' := by
  have HT := Lib.hid ht; clear ht
  by_cases hbig : 500 < s.size
  · have hz : (500 : Int) < (s.size : Int) := by omega
    clear hbig
    go_enter Tryd.func3, Tryd.ntmps3
    go_wp2_with fail
    refine (awake _ HT.out).mono ?_
    rintro e w1 ⟨rfl, hb1⟩
    have HB1 := Lib.hid hb1; clear hb1
    go_wp2_with fail
    refine (awake _ (HT.out.step HB1.out)).mono ?_
    rintro e w2 ⟨rfl, hb2⟩
    have HB2 := Lib.hid hb2; clear hb2
    go_wp2_with fail
    go_ret
    exact ⟨rfl, HB1.out.trans (HB2.out.mono HB1.out.size)⟩
  · have hz : ¬ ((500 : Int) < (s.size : Int)) := by omega
    have hsz : s.size ≤ 500 := by omega
    clear hbig
    go_enter Tryd.func3, Tryd.ntmps3
    go_wp2_with fail
    refine (awake _ HT.out).mono ?_
    rintro e w1 ⟨rfl, hb1⟩
    have HB1 := Lib.hid hb1; clear hb1
    go_wp2_with fail
    refine (split s _ (by omega) (HT.out.step HB1.out)).mono ?_
    rintro e w2 ⟨A, c, rfl, hc, hC, hb⟩
    obtain ⟨K, hK⟩ := ref_split s hsz
    have HK := Lib.hid hK
    have HB2 : Hid (Below w.heap.size w w2) := Lib.hid (HB1.out.trans (hb.mono HB1.out.size))
    have HC := Lib.hid hC
    have HLS : Hid ((splitS s).1.length ≤ 1000000) := Lib.hid (by
      unfold splitS; split; simp; split; simp; split; simp; simp; omega)
    clear hK hb hC
    generalize splitS s = r at *
    obtain ⟨ws, n⟩ := r
    go_wp2_with fail
    refine (whilomref20_Split.calls K s ws n _ HK.out).mono ?_
    rintro e w3 ⟨v, rfl, hR, hb3⟩
    obtain ⟨A', c', rfl, hc', hC'⟩ := Kd.R_reads hR
    have HB3 : Hid (Below w.heap.size w w3) := Lib.hid (HB2.out.trans (hb3.mono HB2.out.size))
    have HC3 := Lib.hid (Kd.C_below HC.out hb3)
    have HC' := Lib.hid hC'
    obtain ⟨K2, hK2⟩ := same_strs ws HLS.out
    have HK2 := Lib.hid hK2
    clear hR hb3 hC' hK2
    go_wp2_with fail
    refine (whilomref20_Same.calls K2 A c ws A' c' ws true _ HC3.out hc HC'.out hc' HK2.out).mono ?_
    rintro e w4 ⟨rfl, hd⟩
    have HB4 : Hid (Below w.heap.size w w4) := Lib.hid (HB3.out.trans (hd.below.mono HB3.out.size))
    clear hd
    go_wp2_with fail
    go_ret
    exact ⟨rfl, HB4.out⟩
end Go.Proofs.YtddmlhcjbifkoaaDoor.Words
