/- Items and commands, part Vv of this seat's texts: plain facts and walks. No conditions. -/
import Derived.Test.YtddmlhcjbifkoaaDoorVi
import Derived.Test.YtddmlhcjbifkoaaDoorVerbRefP
import Derived.Test.YtddmlhcjbifkoaaDoorSq
import Derived.Test.YtddmlhcjbifkoaaDoorMem
import Derived.Lib.Hide
import Derived.LoopTactic
import Derived.IntWalk
import Derived.Laws.Rows
/- Handles' texts, commands, what words say: there and back. No program. No conditions. -/
namespace Go.Proofs.YtddmlhcjbifkoaaDoor.Verb
open Go.Lib Go.Proofs.YtddmlhcjbifkoaaDoor.Item

theorem itoa_dot (n : Int) : (46 : UInt8) ∉ itoa n := by
  intro h
  unfold itoa at h
  split at h
  · rcases List.mem_cons.1 h with h | h
    · exact absurd h (by decide)
    · have := (dec_digits _ _ h).1
      exact absurd this (by decide)
  · have := (dec_digits _ _ h).1
    exact absurd this (by decide)

theorem split_dot : ∀ {a a' b b' : List UInt8}, (46 : UInt8) ∉ a → (46 : UInt8) ∉ a' → a ++ 46 :: b = a' ++ 46 :: b' → a = a' ∧ b = b'
  | [], [], b, b', _, _, h => ⟨rfl, by simpa using h⟩
  | [], c :: t, b, b', _, h', h => by
    simp only [List.nil_append, List.cons_append, List.cons.injEq] at h
    exact absurd (by rw [← h.1]; exact List.mem_cons_self) h'
  | c :: t, [], b, b', h1, _, h => by
    simp only [List.nil_append, List.cons_append, List.cons.injEq] at h
    exact absurd (by rw [h.1]; exact List.mem_cons_self) h1
  | c :: t, d :: t', b, b', h1, h', h => by
    simp only [List.cons_append, List.cons.injEq] at h
    have := split_dot (fun x => h1 (List.mem_cons_of_mem _ x)) (fun x => h' (List.mem_cons_of_mem _ x)) h.2
    exact ⟨by rw [h.1, this.1], this.2⟩

/-- A handle's text. -/
def hText (i g : Int) : List UInt8 := itoa i ++ 46 :: itoa g

theorem at_dot (s : List UInt8) : (index s [46] = -1 ∧ (46 : UInt8) ∉ s) ∨ ∃ i : Nat, index s [46] = i ∧ i < s.length ∧ (46 : UInt8) ∉ s.take i ∧ s = s.take i ++ 46 :: s.drop (i + 1) := by
  rw [index_one]
  rcases Int.lt_or_le (indexByte s 46) 0 with h | h
  · left
    have hge := indexByte_ge s 46
    have e : indexByte s 46 = -1 := by omega
    refine ⟨e, fun hm => ?_⟩
    obtain ⟨k, hk⟩ := List.getElem?_of_mem hm
    exact indexByte_none e k hk
  · right
    obtain ⟨i, hi⟩ : ∃ i : Nat, indexByte s 46 = i := ⟨(indexByte s 46).toNat, by omega⟩
    obtain ⟨h1, h2⟩ := indexByte_some hi
    have hlt : i < s.length := by
      rcases Nat.lt_or_ge i s.length with h | h
      · exact h
      · rw [List.getElem?_eq_none h] at h1; cases h1
    refine ⟨i, hi, hlt, fun hm => ?_, ?_⟩
    · obtain ⟨k, hk⟩ := List.getElem?_of_mem hm
      rw [List.getElem?_take] at hk
      split at hk
      · exact h2 k (by assumption) hk
      · cases hk
    · have : s[i] = 46 := by rw [List.getElem?_eq_getElem hlt] at h1; injection h1
      rw [← this, List.getElem_cons_drop, List.take_append_drop]

/-- Whose handle is a text? -/
def handleOf (s : List UInt8) : Option (Int × Int) :=
  if 0 ≤ index s [46] then
    (match num (s.take (index s [46]).toNat), num (s.drop ((index s [46]).toNat + 1)) with
    | some a, some b => if 0 ≤ a ∧ 0 ≤ b then some (a, b) else none
    | _, _ => none)
  else none

theorem handleOf_text {k i : Int} (hk : In64 k) (hi : In64 i) (h0 : 0 ≤ k) (h1 : 0 ≤ i) : handleOf (hText k i) = some (k, i) := by
  have hh : (46 : UInt8) ∈ hText k i := by unfold hText; simp
  rcases at_dot (hText k i) with ⟨_, h⟩ | ⟨j, h1, h2, h3, h4⟩
  · exact absurd hh h
  · have := split_dot (itoa_dot k) h3 (show itoa k ++ 46 :: itoa i = _ from h4)
    unfold handleOf
    rw [h1, if_pos (by omega), Int.toNat_natCast, ← this.1, ← this.2, num_itoa hk, num_itoa hi]
    simp only
    rw [if_pos ⟨by omega, by omega⟩]

theorem handleOf_some {s : List UInt8} {k i : Int} (h : handleOf s = some (k, i)) : s = hText k i ∧ In64 k ∧ In64 i ∧ 0 ≤ k ∧ 0 ≤ i := by
  unfold handleOf at h
  rcases at_dot s with ⟨e, _⟩ | ⟨j, h1, h2, h3, h4⟩
  · rw [e, if_neg (by decide)] at h; cases h
  · rw [h1, if_pos (by omega), Int.toNat_natCast] at h
    split at h
    · rename_i a b ha hb
      split at h
      · rename_i hp
        injection h with h
        injection h with e1 e2
        subst e1; subst e2
        obtain ⟨ea, ra, _⟩ := num_some ha
        obtain ⟨eb, rb, _⟩ := num_some hb
        refine ⟨?_, ra, rb, hp⟩
        unfold hText
        rw [← ea, ← eb]
        exact h4
      · cases h
    · cases h

/-- The text that is told of a handle. -/
def handleTxt (i g : Int) : List UInt8 := if i < 0 ∨ g < 0 then [] else hText i g

/-- By the program's way: what both halves read as, told again, is the text. -/
theorem handle_is {s a b : List UInt8} {x : Bool} (hc : cut s [46] = (a, b, x)) :
    handleOf s = (match num a, num b with | some i, some g => if handleTxt i g = s then some (i, g) else none | _, _ => none) := by
  cases hr : handleOf s with
  | some p =>
    obtain ⟨k, i⟩ := p
    obtain ⟨e1, hk, hi, h0, h1⟩ := handleOf_some hr
    unfold cut at hc
    rcases at_dot s with ⟨e', hn⟩ | ⟨j, h1', h2, h3, h4⟩
    · exact absurd (by rw [e1]; unfold hText; simp) hn
    · rw [h1', if_pos (by omega), Int.toNat_natCast] at hc
      simp only [Prod.mk.injEq, List.length_singleton] at hc
      have h5 := split_dot (itoa_dot k) h3 (show itoa k ++ 46 :: itoa i = _ from e1.symm.trans h4)
      rw [← hc.1, ← hc.2.1, ← h5.1, ← h5.2, num_itoa hk, num_itoa hi]
      simp only
      rw [if_pos]
      unfold handleTxt
      rw [if_neg (by omega)]; exact e1.symm
  | none =>
    cases ha : num a with
    | none => rfl
    | some i =>
      cases hb : num b with
      | none => rfl
      | some g =>
        simp only
        rw [if_neg]
        intro e
        unfold handleTxt at e
        obtain ⟨_, ri, _⟩ := num_some ha
        obtain ⟨_, rg, _⟩ := num_some hb
        split at e
        · -- the empty text: its halves are empty, which are no numbers
          rename_i hneg
          subst e
          have : cut ([] : List UInt8) [46] = ([], [], false) := by decide
          rw [this] at hc
          injection hc with ea _
          subst ea
          rw [show num ([] : List UInt8) = none by decide] at ha
          cases ha
        · rename_i hpos
          rw [← e, handleOf_text ri rg (by omega) (by omega)] at hr
          cases hr
end Go.Proofs.YtddmlhcjbifkoaaDoor.Verb
/- What words say, in plain words; the document's Parse answers so. No conditions. -/
namespace Go.Proofs.YtddmlhcjbifkoaaDoor.Verb
open Go.Lib Go.RowKit Go.Proofs.YtddmlhcjbifkoaaDoorW.PrintWords Go.Proofs.YtddmlhcjbifkoaaDoor.PItemReads Go.Proofs.YtddmlhcjbifkoaaDoor.PVerbShows Go.Proofs.YtddmlhcjbifkoaaDoor.Item

def handR (o : Option (Int × Int)) : Int × Int × Bool := match o with | some (a, b) => (a, b, true) | none => (0, 0, false)
theorem handleOf_at {s : List UInt8} {i : Nat} (hi : i < s.length) (hn : (46 : UInt8) ∉ s.take i) (h : s[i] = 46) : handleOf s = (match num (s.take i), num (s.drop (i + 1)) with | some a, some b => if 0 ≤ a ∧ 0 ≤ b then some (a, b) else none | _, _ => none) := by
  have e0 : s = s.take i ++ 46 :: s.drop (i + 1) := by rw [← h, List.getElem_cons_drop, List.take_append_drop]
  rcases at_dot s with ⟨_, hx⟩ | ⟨j, h1, h2, h3, h4⟩
  · exact absurd (by rw [← h]; exact List.getElem_mem hi) hx
  · have := (split_dot hn h3 (e0.symm.trans h4)).1
    have l := congrArg List.length this
    rw [List.length_take, List.length_take] at l
    have e : i = j := by omega
    subst e
    unfold handleOf
    rw [h1, if_pos (by omega), Int.toNat_natCast]
    try rfl
theorem handle_go (s : ByteArray) (hs : s.size ≤ 1000000) : ∀ (n i : Nat), i + n = s.size → (46 : UInt8) ∉ s.data.toList.take i → ∀ k, n + 101 ≤ k → whilomref21_handle.l0 k s (i : Int) = some (handR (handleOf s.data.toList)) := by
  intro n
  induction n with
  | zero =>
    intro i hi hn k hk
    obtain ⟨k, rfl⟩ : ∃ j, k = j + 1 := ⟨k - 1, by omega⟩
    rw [whilomref21_handle.l0, if_neg (by omega)]
    rw [List.take_of_length_le (by rw [sz]; omega)] at hn
    rcases at_dot s.data.toList with ⟨e, _⟩ | ⟨j, h1, h2, h3, h4⟩
    · unfold handleOf
      rw [e, if_neg (by decide)]
      rfl
    · exact absurd (by rw [h4]; simp) hn
  | succ n ih =>
    intro i hi hn k hk
    obtain ⟨k, rfl⟩ : ∃ j, k = j + 1 := ⟨k - 1, by omega⟩
    have hlt : i < s.data.toList.length := by rw [sz]; omega
    have hb := bt_is s i _ (List.getElem?_eq_getElem hlt)
    have hup : wrap64 ((i : Int) + 1) = ((i + 1 : Nat) : Int) := by unfold wrap64; omega
    rw [whilomref21_handle.l0, if_pos (by omega), if_pos (by omega), hb, hup]
    by_cases h : s.data.toList[i] = 46
    · rw [if_pos (by rw [h]; rfl), if_pos (by omega), Int.toNat_natCast, value_ev _ (by omega), Option.bind_some, if_pos (by omega), if_pos (by omega), Int.toNat_natCast, value_ev _ (by omega), Option.bind_some]
      rw [handleOf_at hlt hn h, ext_data, ext_data]
      simp only [List.drop_zero, Nat.sub_zero]
      rw [List.take_of_length_le (l := s.data.toList.drop (i + 1)) (by rw [List.length_drop, sz]; omega)]
      cases num (s.data.toList.take i) with
      | none => rfl
      | some a =>
        cases num (s.data.toList.drop (i + 1)) with
        | none => rfl
        | some b =>
          show (if a ≥ 0 then if b ≥ 0 then some (a, b, true) else some (0, 0, false) else some (0, 0, false)) = some (handR (if 0 ≤ a ∧ 0 ≤ b then some (a, b) else none))
          by_cases ha : 0 ≤ a
          · rw [if_pos ha]
            by_cases hb : 0 ≤ b
            · rw [if_pos hb, if_pos ⟨ha, hb⟩]; rfl
            · rw [if_neg hb, if_neg (fun e => hb e.2)]; rfl
          · rw [if_neg ha, if_neg (fun e => ha e.1)]; rfl
    · rw [if_neg (fun e => h (UInt8.toNat_inj.1 (by have e' : ((46 : UInt8).toNat : Int) = 46 := rfl; omega)))]
      refine ih (i + 1) (by omega) ?_ k (by omega)
      intro hm
      rw [List.take_succ_eq_append_getElem hlt, List.mem_append, List.mem_singleton] at hm
      rcases hm with hm | hm
      · exact hn hm
      · exact h hm.symm
theorem handle_ev (s : ByteArray) (hs : s.size ≤ 1000000) {k : Nat} (hk : s.size + 101 ≤ k) : whilomref21_handle.f k s = some (handR (handleOf s.data.toList)) := by
  unfold whilomref21_handle.f
  exact handle_go s hs s.size 0 (by omega) (by simp) k hk

/-! ### Commands -/
def names : List ByteArray := (whilomref21_table.f.getD ([], [])).1
def wantsU : List ByteArray := (whilomref21_table.f.getD ([], [])).2
theorem table_is : whilomref21_table.f = some (names, wantsU) := rfl
theorem names_len : names.length = 18 := rfl
theorem wants_len : wantsU.length = 18 := rfl
inductive Fld | T | N | H
deriving DecidableEq
def fldOf (c : UInt8) : Fld := if c = 84 then .T else if c = 78 then .N else .H
def wantsF (i : Nat) : List Fld := (wantsU.getD i ByteArray.empty).data.toList.map fldOf
def nameAt (i : Nat) : ByteArray := names.getD i ByteArray.empty
theorem chars : ∀ i, i < 18 → ∀ c ∈ (wantsU.getD i ByteArray.empty).data.toList, c = 84 ∨ c = 78 ∨ c = 72 := by decide +kernel
theorem fld_len (i : Nat) : (wantsF i).length = (wantsU.getD i ByteArray.empty).size := by unfold wantsF; rw [List.length_map, sz]
theorem few : ∀ i, i < 18 → (wantsF i).length ≤ 2 := by decide +kernel
/-- What is said. -/
structure SaidV where
  say : Int
  i : Int
  g : Int
  t : Int
  n : Int
deriving DecidableEq
def zeroS : SaidV := ⟨0, 0, 0, 0, 0⟩
def putF (s : SaidV) (f : Fld) (w : ByteArray) : Option SaidV := match f with
  | .T => (num w.data.toList).map fun n => { s with t := n }
  | .N => (num w.data.toList).map fun n => { s with n := n }
  | .H => (handleOf w.data.toList).map fun p => { s with i := p.1, g := p.2 }
def goP : SaidV → List Fld → List ByteArray → Option SaidV
  | s, [], _ => some s
  | s, f :: fs, w :: ws => (putF s f w).bind fun s' => goP s' fs ws
  | _, _ :: _, [] => none
def firstC (w : ByteArray) (n i : Nat) : Option Nat := (List.range' i (18 - i)).find? (fun j => decide (nameAt j = w) && decide ((wantsF j).length = n))
def outP (o : Option SaidV) : SaidV × Int := match o with | some s => (s, 0) | none => (zeroS, 31)
def parseC (o : Option Nat) (r : List ByteArray) : SaidV × Int := match o with | none => (zeroS, 31) | some j => outP (goP ⟨j, 0, 0, 0, 0⟩ (wantsF j) r)
def parseR (ws : List ByteArray) : SaidV × Int := match ws with | [] => (zeroS, 0) | w :: r => parseC (firstC w r.length 1) r
def flat (p : SaidV × Int) : Int × Int × Int × Int × Int × Int := (p.1.say, p.1.i, p.1.g, p.1.t, p.1.n, p.2)

theorem rd_nat (l : List ByteArray) (i : Nat) : rdOf ByteArray.empty l (i : Int) = l.getD i ByteArray.empty := by unfold rdOf; rw [Int.toNat_natCast]
theorem l1_ev (j : Nat) (hj : j < 18) (ws : List ByteArray) (hw : ∀ x ∈ ws, x.size ≤ 1000) (hl : ws.length = (wantsF j).length + 1) : ∀ (d p : Nat) (s : SaidV), p + d = (wantsF j).length → ∀ k, d + 1200 ≤ k →
    whilomref21_Parse.l1 k ws wantsU (j : Int) (p : Int) s.say s.i s.g s.t s.n = some (flat (outP (goP s ((wantsF j).drop p) (ws.drop (p + 1))))) := by
  intro d
  have h2 := few j hj
  induction d with
  | zero =>
    intro p s hp k hk
    obtain ⟨k, rfl⟩ : ∃ m, k = m + 1 := ⟨k - 1, by omega⟩
    have hz := fld_len j
    rw [whilomref21_Parse.l1, if_pos (by omega), if_pos (by rw [wants_len]; omega), rd_nat, if_neg (by omega), List.drop_of_length_le (by omega)]
    rfl
  | succ d ih =>
    intro p s hp k hk
    obtain ⟨k, rfl⟩ : ∃ m, k = m + 1 := ⟨k - 1, by omega⟩
    have hz := fld_len j
    have hup : wrap64 ((p : Int) + 1) = ((p + 1 : Nat) : Int) := by unfold wrap64; omega
    have hlt : p < (wantsU.getD j ByteArray.empty).data.toList.length := by rw [sz]; omega
    have hlw : p + 1 < ws.length := by omega
    have hb := bt_is _ p _ (List.getElem?_eq_getElem hlt)
    have hF : (wantsF j).drop p = fldOf ((wantsU.getD j ByteArray.empty).data.toList[p]) :: (wantsF j).drop (p + 1) := by
      rw [List.drop_eq_getElem_cons (by omega)]
      congr 1
      unfold wantsF
      rw [List.getElem_map]
    have hW : ws.drop (p + 1) = ws[p + 1] :: ws.drop (p + 1 + 1) := List.drop_eq_getElem_cons hlw
    have hg : ws.getD (p + 1) ByteArray.empty = ws[p + 1] := by rw [List.getD_eq_getElem?_getD, List.getElem?_eq_getElem hlw]; rfl
    have hs := hw _ (List.getElem_mem hlw)
    rw [whilomref21_Parse.l1, if_pos (by omega), if_pos (by rw [wants_len]; omega), rd_nat, if_pos (by omega), hup, if_pos (by omega), if_pos (by omega), rd_nat, hg, value_ev _ (by omega), Option.bind_some, if_pos (by omega), hb, hF, hW]
    generalize ws[p + 1] = x at hs ⊢
    have ih' := fun s => ih (p + 1) s (by omega) k (by omega)
    rcases chars j hj _ (List.getElem_mem hlt) with h | h | h
    · rw [h, if_pos (show ((84 : UInt8).toNat : Int) = 84 from rfl)]
      show _ = some (flat (outP ((putF s .T x).bind fun s' => goP s' _ _)))
      unfold putF
      cases num x.data.toList with
      | none => rfl
      | some v =>
        simp only [numR, if_true]
        exact ih' { s with t := v }
    · rw [h, if_neg (by decide), if_pos (show ((78 : UInt8).toNat : Int) = 78 from rfl)]
      show _ = some (flat (outP ((putF s .N x).bind fun s' => goP s' _ _)))
      unfold putF
      cases num x.data.toList with
      | none => rfl
      | some v =>
        simp only [numR, if_true]
        exact ih' { s with n := v }
    · rw [h, if_neg (by decide), if_neg (by decide), if_pos (show ((72 : UInt8).toNat : Int) = 72 from rfl), handle_ev _ (by omega) (by omega), Option.bind_some]
      show _ = some (flat (outP ((putF s .H x).bind fun s' => goP s' _ _)))
      unfold putF
      cases handleOf x.data.toList with
      | none => rfl
      | some q =>
        obtain ⟨a, b⟩ := q
        simp only [handR, if_true]
        exact ih' { s with i := a, g := b }
theorem firstC_step (w : ByteArray) (n i : Nat) (hi : i < 18) : firstC w n i = if nameAt i = w ∧ (wantsF i).length = n then some i else firstC w n (i + 1) := by
  unfold firstC
  obtain ⟨d, hd⟩ : ∃ d, 18 - i = d + 1 := ⟨17 - i, by omega⟩
  have h2 : 18 - (i + 1) = d := by omega
  rw [hd, h2, List.range'_succ, List.find?_cons]
  by_cases h1 : nameAt i = w
  · by_cases h3 : (wantsF i).length = n
    · rw [if_pos ⟨h1, h3⟩]; simp [h1, h3]
    · rw [if_neg (fun e => h3 e.2)]; simp [h3]
  · rw [if_neg (fun e => h1 e.1)]; simp [h1]
theorem l0_ev (w : ByteArray) (r : List ByteArray) (hw : ∀ x ∈ w :: r, x.size ≤ 1000) (hr : r.length ≤ 1000000) : ∀ (d i : Nat), i + d = 18 → ∀ k, 2 * d + 1300 ≤ k →
    whilomref21_Parse.l0 k (w :: r) names wantsU (i : Int) = some (flat (parseC (firstC w r.length i) r)) := by
  intro d
  induction d with
  | zero =>
    intro i hi k hk
    obtain ⟨k, rfl⟩ : ∃ m, k = m + 1 := ⟨k - 1, by omega⟩
    obtain rfl : i = 18 := by omega
    rw [whilomref21_Parse.l0, if_neg (by rw [names_len]; decide)]
    rfl
  | succ d ih =>
    intro i hi k hk
    obtain ⟨k, rfl⟩ : ∃ m, k = m + 1 + 1 := ⟨k - 2, by omega⟩
    have hup : wrap64 ((i : Int) + 1) = ((i + 1 : Nat) : Int) := by unfold wrap64; omega
    have hz := fld_len i
    have hlen : wrap64 (((w :: r).length : Int) - 1) = (r.length : Int) := by unfold wrap64; rw [List.length_cons]; omega
    have e0 : rdOf ByteArray.empty (w :: r) 0 = w := rfl
    rw [whilomref21_Parse.l0, if_pos (by rw [names_len]; omega), if_pos (by omega), if_pos (by rw [List.length_cons]; omega), rd_nat, rd_nat, e0, hlen, firstC_step _ _ _ (by omega)]
    have hn : names.getD i ByteArray.empty = nameAt i := rfl
    rw [hn]
    by_cases h1 : nameAt i = w
    · rw [if_pos (toList_inj.2 h1), if_pos (by rw [wants_len]; omega), whilomref21_Parse.j1]
      by_cases h3 : (wantsF i).length = r.length
      · rw [if_neg (by rw [← hz, h3]; simp), if_pos ⟨h1, h3⟩]
        exact l1_ev i (by omega) (w :: r) hw (by rw [List.length_cons]; omega) _ 0 ⟨i, 0, 0, 0, 0⟩ (Nat.zero_add _) k (by have := few i (by omega); omega)
      · rw [if_pos (by rw [← hz]; simp only [bne_iff_ne, ne_eq]; omega), if_neg (fun e => h3 e.2), hup]
        exact ih (i + 1) (by omega) k (by omega)
    · rw [if_neg (fun e => h1 (toList_inj.1 e)), whilomref21_Parse.j1, if_pos rfl, if_neg (fun e => h1 e.1), hup]
      exact ih (i + 1) (by omega) k (by omega)
theorem parse_ev (ws : List ByteArray) (hw : ∀ x ∈ ws, x.size ≤ 1000) (hr : ws.length ≤ 1000000) {k : Nat} (hk : 1400 ≤ k) : whilomref21_Parse.f k ws = some (flat (parseR ws)) := by
  unfold whilomref21_Parse.f
  cases ws with
  | nil => rfl
  | cons w r =>
    rw [if_neg (by rw [List.length_cons]; omega), table_is, Option.bind_some]
    exact l0_ev w r hw (by rw [List.length_cons] at hr; omega) 17 1 rfl k (by omega)
end Go.Proofs.YtddmlhcjbifkoaaDoor.Verb
/- The program's words on numbers and handles. No conditions. -/
namespace Go.Proofs.YtddmlhcjbifkoaaDoor.Verb
open Go.Lib Go.RowKit Go.Proofs.YtddmlhcjbifkoaaDoor.Mem Go.Proofs.YtddmlhcjbifkoaaDoorW.PrintWords Go.Proofs.YtddmlhcjbifkoaaDoor.Item

set_option maxRecDepth 100000 in
theorem number_ (n : Int) (w : World) (hn : In64 n) (he : Env w) : Calls Tryd.prog 34 #[.int .i64 n] w fun e w' => e = .returned (.string (mk (itoa n))) ∧ Below w.heap.size w w' := by
  have C := Lib.hid (itoa_calls n w hn he)
  generalize mk (itoa n) = t at *
  clear he hn
  go_enter Tryd.func34, Tryd.ntmps34
  go_wp2_with fail
  refine C.out.mono ?_
  rintro e w' ⟨rfl, hb⟩
  have HB := Lib.hid hb
  clear hb C
  go_wp2_with fail
  go_ret
  exact ⟨rfl, HB.out⟩

theorem hText_mk (i g : Int) : (mk (itoa i) ++ (⟨#[46]⟩ : ByteArray)) ++ mk (itoa g) = mk (hText i g) := by
  rw [show (⟨#[46]⟩ : ByteArray) = mk [46] from rfl, mk_append, mk_append]; unfold hText; simp
set_option maxRecDepth 100000 in
set_option maxHeartbeats 1000000 in
theorem handle_ (i g : Int) (w : World) (hi : In64 i) (hg : In64 g) (he : Env w) :
    Calls Tryd.prog 36 #[.agg #[.int .i64 i, .int .i64 g]] w fun e w' => e = .returned (.string (mk (handleTxt i g))) ∧ Below w.heap.size w w' := by
  have hu50 := Tryd.underlying50
  by_cases h0 : i < 0
  · have E : Hid (mk (handleTxt i g) = (⟨#[]⟩ : ByteArray)) := Lib.hid (by unfold handleTxt; rw [if_pos (Or.inl h0)]; rfl)
    have t0 : decide (i < 0) = true := decide_eq_true h0
    clear he hi hg h0
    go_enter Tryd.func36, Tryd.ntmps36
    go_wp2_with fail
    go_ret
    exact ⟨by rw [E.out]; rfl, (Below.refl _ _).alloc (Nat.le_refl _) _⟩
  have t0 : decide (i < 0) = false := decide_eq_false h0
  by_cases h1 : g < 0
  · have E : Hid (mk (handleTxt i g) = (⟨#[]⟩ : ByteArray)) := Lib.hid (by unfold handleTxt; rw [if_pos (Or.inr h1)]; rfl)
    have t1 : decide (g < 0) = true := decide_eq_true h1
    clear he hi hg h0 h1
    go_enter Tryd.func36, Tryd.ntmps36
    go_wp2_with fail
    go_ret
    exact ⟨by rw [E.out]; rfl, (Below.refl _ _).alloc (Nat.le_refl _) _⟩
  have t1 : decide (g < 0) = false := decide_eq_false h1
  have CA : Hid (∀ w1, Below w.heap.size w w1 → Calls Tryd.prog 34 #[.int .i64 i] w1 fun e w' => e = .returned (.string (mk (itoa i))) ∧ Below w1.heap.size w1 w') := Lib.hid (fun w1 hb => number_ i w1 hi (he.step hb))
  have CG : Hid (∀ w1, Below w.heap.size w w1 → Calls Tryd.prog 34 #[.int .i64 g] w1 fun e w' => e = .returned (.string (mk (itoa g))) ∧ Below w1.heap.size w1 w') := Lib.hid (fun w1 hb => number_ g w1 hg (he.step hb))
  have E : Hid ((mk (itoa i) ++ (⟨#[46]⟩ : ByteArray)) ++ mk (itoa g) = mk (handleTxt i g)) := Lib.hid (by unfold handleTxt; rw [if_neg (by omega), hText_mk])
  have l1 : (mk (itoa i)).size ≤ 20 := by rw [mk_size]; exact itoa_len hi
  have l2 : (mk (itoa g)).size ≤ 20 := by rw [mk_size]; exact itoa_len hg
  have l3 : (mk (itoa i) ++ (⟨#[46]⟩ : ByteArray)).size ≤ 21 := by
    rw [show (⟨#[46]⟩ : ByteArray) = mk [46] from rfl, mk_append, mk_size, List.length_append]
    have := itoa_len hi
    simp; omega
  generalize mk (itoa i) = ti at *
  generalize mk (itoa g) = tg at *
  have l4 : ti.size + 1 ≤ 9223372036854775807 := by omega
  have l5 : (ti ++ (⟨#[46]⟩ : ByteArray)).size + tg.size ≤ 9223372036854775807 := by omega
  clear he hi hg h0 h1
  go_enter Tryd.func36, Tryd.ntmps36
  go_wp2_with fail
  have HX : Hid (Blk (w.alloc (Obj.cells #[Value.int .i64 i, .int .i64 g] 50)).drew w.heap.size #[.int .i64 i, .int .i64 g] 50) := Lib.hid (Blk.new _ _ _).drew
  have HB : Hid (Below w.heap.size w (w.alloc (Obj.cells #[Value.int .i64 i, .int .i64 g] 50)).drew) := Lib.hid ((Below.refl _ _).alloc (Nat.le_refl _) _).drew
  refine Sq.region_ (fun w' => w'.cell? ⟨w.heap.size, 0, none⟩ = some (.int .i64 i) ∧ w'.cell? ⟨w.heap.size, 1, none⟩ = some (.int .i64 g)) [2, 6] [(0, some 11), (1, some 12), (4, some 15), (5, some 16), (2, some 13), (3, some 14), (6, some 17), (7, some 18), (8, some 2)] (by kernel_rfl) rfl (by kernel_rfl) (fun _ _ N _ _ h => by cases N <;> exact h) ⟨HX.out.cell (j := 0) rfl, HX.out.cell (j := 1) rfl⟩ (fun hHeld => ?_)
  generalize (w.alloc (Obj.cells #[Value.int .i64 i, .int .i64 g] 50)).drew = wd at *
  repeat (first | (refine Sq.q_ (v := ?_) (a' := ?_) rfl rfl rfl (by rfl) ?_ ?_ ?_; rotate_left 2; (· (rintro w' ⟨s0, s1⟩; go_simp; (first | with_reducible rfl | rw [if_neg (by omega)]))); (· (simp only [Act.put, List.setIfInBounds_toArray, List.set_cons_zero, List.set_cons_succ]; rfl))) | (refine Sq.o_ (a' := ?_) rfl rfl rfl (by rfl) ?_ ?_; rotate_left 1; (· (simp only [Act.put, List.setIfInBounds_toArray, List.set_cons_zero, List.set_cons_succ]; rfl))))
  refine Sq.c_ #[.int .i64 i] Tryd.func34 (by kernel_rfl) rfl rfl rfl rfl (by rfl) rfl (by (try simp only [List.map_toArray, List.map_cons, List.map_nil]); first | done | rfl) ?_
  refine (CA.out _ HB.out).mono ?_
  rintro e w1 ⟨rfl, hb⟩
  have HX' := Lib.hid (HX.out.below hb)
  have HB' := Lib.hid (HB.out.trans (hb.mono HB.out.size))
  clear hb HX HB
  have HX := HX'
  have HB := HB'
  clear HX' HB'
  refine ⟨_, ?_, rfl, ?_, ⟨HX.out.cell (j := 0) rfl, HX.out.cell (j := 1) rfl⟩, fun hHeld' => ?_⟩
  rotate_left 1
  (· (simp only [Act.put, List.setIfInBounds_toArray, List.set_cons_zero, List.set_cons_succ]; rfl))
  clear hHeld
  have hHeld := hHeld'
  clear hHeld'
  repeat (first | (refine Sq.q_ (v := ?_) (a' := ?_) rfl rfl rfl (by rfl) ?_ ?_ ?_; rotate_left 2; (· (rintro w' ⟨s0, s1⟩; go_simp; (first | with_reducible rfl | rw [if_neg (by omega)]))); (· (simp only [Act.put, List.setIfInBounds_toArray, List.set_cons_zero, List.set_cons_succ]; rfl))) | (refine Sq.o_ (a' := ?_) rfl rfl rfl (by rfl) ?_ ?_; rotate_left 1; (· (simp only [Act.put, List.setIfInBounds_toArray, List.set_cons_zero, List.set_cons_succ]; rfl))))
  refine Sq.c_ #[.int .i64 g] Tryd.func34 (by kernel_rfl) rfl rfl rfl rfl (by rfl) rfl (by (try simp only [List.map_toArray, List.map_cons, List.map_nil]); first | done | rfl) ?_
  refine (CG.out _ HB.out).mono ?_
  rintro e w2 ⟨rfl, hb⟩
  have HX' := Lib.hid (HX.out.below hb)
  have HB' := Lib.hid (HB.out.trans (hb.mono HB.out.size))
  clear hb HX HB
  have HX := HX'
  have HB := HB'
  clear HX' HB'
  refine ⟨_, ?_, rfl, ?_, ⟨HX.out.cell (j := 0) rfl, HX.out.cell (j := 1) rfl⟩, fun hHeld' => ?_⟩
  rotate_left 1
  (· (simp only [Act.put, List.setIfInBounds_toArray, List.set_cons_zero, List.set_cons_succ]; rfl))
  clear hHeld
  have hHeld := hHeld'
  clear hHeld'
  repeat (first | (refine Sq.q_ (v := ?_) (a' := ?_) rfl rfl rfl (by rfl) ?_ ?_ ?_; rotate_left 2; (· (rintro w' ⟨s0, s1⟩; go_simp; (first | with_reducible rfl | rw [if_neg (by omega)]))); (· (simp only [Act.put, List.setIfInBounds_toArray, List.set_cons_zero, List.set_cons_succ]; rfl))) | (refine Sq.o_ (a' := ?_) rfl rfl rfl (by rfl) ?_ ?_; rotate_left 1; (· (simp only [Act.put, List.setIfInBounds_toArray, List.set_cons_zero, List.set_cons_succ]; rfl))))
  refine Sq.e_ ?_
  go_wp2_with fail
  go_ret
  exact ⟨by rw [← E.out]; rfl, HB.out⟩

set_option maxRecDepth 100000 in
set_option maxHeartbeats 1000000 in
theorem numberOf (s : ByteArray) (w : World) (hs : s.size ≤ 1000000) (he : Env w) :
    Calls Tryd.prog 79 #[.string s] w fun e w' => e = .returned (.tuple #[.int .i64 (numR (num s.data.toList)).1, .bool (numR (num s.data.toList)).2]) ∧ Below w.heap.size w w' := by
  have CA := Lib.hid (atoi s w hs he)
  have CN : Hid (∀ n w1, In64 n → Below w.heap.size w w1 → Calls Tryd.prog 34 #[.int .i64 n] w1 fun e w' => e = .returned (.string (mk (itoa n))) ∧ Below w1.heap.size w1 w') := Lib.hid (fun n w1 hn hb => number_ n w1 hn (he.step hb))
  clear he hs
  go_enter Tryd.func79, Tryd.ntmps79
  go_wp2_with fail
  refine CA.out.mono ?_
  rintro e w1 ⟨⟨v, ev, rfl, hv, hc⟩, hb⟩
  have HB := Lib.hid hb
  clear hb CA
  rcases hc with ⟨rfl, ha⟩ | ⟨⟨pa, rfl⟩, ha⟩
  · by_cases ht : itoa v = s.data.toList
    · have HR : Hid (num s.data.toList = some v) := Lib.hid (by rw [← ht]; exact num_itoa hv)
      have hS : mk (itoa v) = s := by rw [ht, Item.mk_data]
      have CN' := Lib.hid (CN.out v w1 hv HB.out)
      rw [hS] at CN'
      clear ht ha CN hv hS
      go_wp2_with fail
      refine CN'.out.mono ?_
      rintro e w2 ⟨rfl, hb⟩
      have HB2 := Lib.hid (HB.out.trans (hb.mono HB.out.size))
      clear hb CN' HB
      go_wp2_with fail
      go_ret2
      exact ⟨by rw [HR.out]; rfl, HB2.out⟩
    · have HR : Hid (num s.data.toList = none) := Lib.hid (by unfold num; rw [ha]; exact if_neg ht)
      have hne : ((mk (itoa v)).toList == s.toList) = false := beq_eq_false_iff_ne.2 (fun h => ht (by have := toList_inj.1 h; rw [← this, mk_toList]))
      have CN' := Lib.hid (CN.out v w1 hv HB.out)
      generalize mk (itoa v) = tt at *
      clear ht ha CN hv
      go_wp2_with fail
      refine CN'.out.mono ?_
      rintro e w2 ⟨rfl, hb⟩
      have HB2 := Lib.hid (HB.out.trans (hb.mono HB.out.size))
      clear hb CN' HB
      go_wp2_with fail
      go_ret2
      exact ⟨by rw [HR.out]; rfl, HB2.out⟩
  · have HR : Hid (num s.data.toList = none) := Lib.hid (by
      unfold num
      split
      · rename_i v' hv'; exact absurd hv' (ha v')
      · rfl)
    clear ha CN hv
    go_wp2_with fail
    go_ret2
    exact ⟨by rw [HR.out]; rfl, HB.out⟩
end Go.Proofs.YtddmlhcjbifkoaaDoor.Verb
/- The table of commands in memory; the command of a word. No conditions. -/
namespace Go.Proofs.YtddmlhcjbifkoaaDoor.Verb
open Go.Lib Go.RowKit Go.Proofs.YtddmlhcjbifkoaaDoor.Mem Go.Proofs.YtddmlhcjbifkoaaDoorW.PrintWords Go.Proofs.YtddmlhcjbifkoaaDoor.Item
def lows : List ByteArray := [⟨#[]⟩, ⟨#[116, 110]⟩, ⟨#[116]⟩, ⟨#[104]⟩, ⟨#[104, 116]⟩, ⟨#[]⟩, ⟨#[]⟩, ⟨#[]⟩, ⟨#[]⟩, ⟨#[]⟩, ⟨#[116]⟩, ⟨#[116]⟩, ⟨#[116, 110]⟩, ⟨#[116, 104]⟩, ⟨#[]⟩, ⟨#[104]⟩, ⟨#[104]⟩, ⟨#[]⟩]
def lowAt (i : Nat) : ByteArray := lows.getD i ByteArray.empty
def lowF (c : UInt8) : Fld := if c = 116 then .T else if c = 110 then .N else .H
theorem low_is : ∀ i, i < 18 → (lowAt i).data.toList.map lowF = wantsF i := by decide +kernel
theorem low_chars : ∀ i, i < 18 → ∀ c ∈ (lowAt i).data.toList, c = 116 ∨ c = 110 ∨ c = 104 := by decide +kernel
/-- The array's cells. -/
def tabC : Array Value := ((List.range 18).flatMap fun i => [Value.string (nameAt i), Value.string (lowAt i)]).toArray
theorem tabC_at (i : Nat) (hi : i < 18) : tabC[2 * i]? = some (.string (nameAt i)) ∧ tabC[2 * i + 1]? = some (.string (lowAt i)) := by
  have h : i = 0 ∨ i = 1 ∨ i = 2 ∨ i = 3 ∨ i = 4 ∨ i = 5 ∨ i = 6 ∨ i = 7 ∨ i = 8 ∨ i = 9 ∨ i = 10 ∨ i = 11 ∨ i = 12 ∨ i = 13 ∨ i = 14 ∨ i = 15 ∨ i = 16 ∨ i = 17 := by omega
  rcases h with rfl | rfl | rfl | rfl | rfl | rfl | rfl | rfl | rfl | rfl | rfl | rfl | rfl | rfl | rfl | rfl | rfl | rfl <;> exact ⟨rfl, rfl⟩
theorem tabC_size : tabC.size = 36 := rfl
/-- The table lies where the program's variable lies. -/
def Tbl (w : World) : Prop := ∃ t fr, w.heap[0]? = some (.cells tabC t fr)
theorem Tbl.step {w w' : World} (h : Tbl w) (hb : Below w.heap.size w w') : Tbl w' := by
  obtain ⟨t, fr, h⟩ := h
  exact ⟨t, fr, (hb.block 0 (Array.getElem?_eq_some_iff.1 h).1).trans h⟩
theorem Tbl.name {w : World} (h : Tbl w) {i : Nat} (hi : i < 18) : w.cell? ⟨0, 2 * i, none⟩ = some (.string (nameAt i)) := by
  obtain ⟨t, fr, h⟩ := h
  rw [cell_of_row w 0 (2 * i) tabC t fr h]; exact (tabC_at i hi).1
theorem Tbl.wants {w : World} (h : Tbl w) {i : Nat} (hi : i < 18) : w.cell? ⟨0, 2 * i + 1, none⟩ = some (.string (lowAt i)) := by
  obtain ⟨t, fr, h⟩ := h
  rw [cell_of_row w 0 (2 * i + 1) tabC t fr h]; exact (tabC_at i hi).2
/-- The command of a word. -/
def findC (w : ByteArray) (i : Nat) : Option Nat := (List.range' i (18 - i)).find? (fun j => decide (0 < j) && decide (nameAt j = w))
def findI (o : Option Nat) : Int := match o with | some j => (j : Int) | none => -1
theorem findC_step (w : ByteArray) (i : Nat) (hi : i < 18) : findC w i = if 0 < i ∧ nameAt i = w then some i else findC w (i + 1) := by
  unfold findC
  obtain ⟨d, hd⟩ : ∃ d, 18 - i = d + 1 := ⟨17 - i, by omega⟩
  have h2 : 18 - (i + 1) = d := by omega
  rw [hd, h2, List.range'_succ, List.find?_cons]
  by_cases h1 : 0 < i
  · by_cases h3 : nameAt i = w
    · rw [if_pos ⟨h1, h3⟩]; simp [h1, h3]
    · rw [if_neg (fun e => h3 e.2)]; simp [h3]
  · rw [if_neg (fun e => h1 e.1)]; simp [h1]
set_option maxRecDepth 100000 in
theorem index_tab (k : Nat) (hk : k < 18) (w : World) : (Instr.index 85 (.agg tabC) (.int .i64 k)).run Tryd.prog w = .ok (.agg #[.string (nameAt k), .string (lowAt k)]) w := by
  have h : k = 0 ∨ k = 1 ∨ k = 2 ∨ k = 3 ∨ k = 4 ∨ k = 5 ∨ k = 6 ∨ k = 7 ∨ k = 8 ∨ k = 9 ∨ k = 10 ∨ k = 11 ∨ k = 12 ∨ k = 13 ∨ k = 14 ∨ k = 15 ∨ k = 16 ∨ k = 17 := by omega
  have hu84 := Tryd.underlying84
  have hu85 := Tryd.underlying85
  rcases h with rfl | rfl | rfl | rfl | rfl | rfl | rfl | rfl | rfl | rfl | rfl | rfl | rfl | rfl | rfl | rfl | rfl | rfl <;> rfl
set_option maxRecDepth 100000 in
set_option maxHeartbeats 1000000 in
theorem find_ (x : ByteArray) (w : World) (h : Tbl w) : Calls Tryd.prog 57 #[.string x] w fun e w' => e = .returned (.int .i64 (findI (findC x 0))) ∧ Below w.heap.size w w' := by
  obtain ⟨T, hT⟩ : ∃ T, T = tabC := ⟨_, rfl⟩
  obtain ⟨tt, fr, h⟩ := h
  have HT : Hid (w.heap[0]? = some (.cells T tt fr)) := Lib.hid (by rw [hT]; exact h)
  have HS : Hid ((Tryd.prog.info? 85).map (·.size) = some T.size) := Lib.hid (by rw [hT, tabC_size]; kernel_rfl)
  have HI : Hid (∀ (k : Nat), k < 18 → ∀ w, (Instr.index 85 (.agg T) (.int .i64 k)).run Tryd.prog w = .ok (.agg #[.string (nameAt k), .string (lowAt k)]) w) := Lib.hid (by rw [hT]; exact index_tab)
  have HB : Hid (Below w.heap.size w w) := Lib.hid (Below.refl _ _)
  have hu84 := Tryd.underlying84
  clear h hT
  go_enter Tryd.func57, Tryd.ntmps57
  go_wp2_with (refine gate_dst (N := 5) rfl ?_; refine wpList_load_row rfl 85 _ rfl 0 rfl tt T fr _ HT.out Tryd.underlying85 rfl HS.out ?_)
  go_loopw [6] (fun i wr => ∃ k : Nat, k ≤ 18 ∧ i = .int .i64 k ∧ findC x 0 = findC x k ∧ Below w.heap.size w wr) (fun i _ => 18 - (intOf i).toNat)
  case atStart => exact ⟨0, Nat.zero_le _, rfl, rfl, HB.out⟩
  case round =>
    obtain ⟨k, hk, rfl, hf, hb⟩ := hrel
    have HF := Lib.hid hf
    have HB' := Lib.hid hb
    clear hf hb HB
    by_cases hlt : k < 18
    · have hkn : (k : Int) < 18 := by omega
      have hk0 : (0 : Int) ≤ k := by omega
      have hkt : ((k : Int)).toNat = k := by omega
      have hix := HI.out k hlt wr
      have HB2 : Hid (Below w.heap.size w (wr.alloc (Obj.cells #[.string (nameAt k), .string (lowAt k)] 84))) := Lib.hid (HB'.out.alloc HB'.out.size _)
      by_cases hp : 0 < k
      · have t0 : decide ((0 : Int) < k) = true := decide_eq_true (by omega)
        have t1 : decide (0 < k) = true := decide_eq_true hp
        by_cases hx : nameAt k = x
        · have t2 : ((nameAt k).toList == x.toList) = true := beq_iff_eq.2 (toList_inj.2 hx)
          have HR : Hid (findC x 0 = some k) := Lib.hid (by rw [HF.out, findC_step _ _ hlt, if_pos ⟨hp, hx⟩])
          generalize nameAt k = nk at *
          clear hp hx
          go_wp2_with fail
          go_ret
          exact ⟨by rw [HR.out]; rfl, HB2.out⟩
        · have t2 : ((nameAt k).toList == x.toList) = false := beq_eq_false_iff_ne.2 (fun e => hx (toList_inj.1 e))
          have HR : Hid (findC x 0 = findC x (k + 1)) := Lib.hid (by rw [HF.out, findC_step _ _ hlt, if_neg (fun e => hx e.2)])
          generalize nameAt k = nk at *
          clear hp hx
          go_wp2_with fail
          go_roundw
          case rel => exact ⟨k + 1, by omega, by go_num, HR.out, HB2.out⟩
          case measure => simp [intOf]; omega
      · have t0 : decide ((0 : Int) < k) = false := decide_eq_false (by omega)
        have t1 : decide (0 < k) = false := decide_eq_false hp
        have HR : Hid (findC x 0 = findC x (k + 1)) := Lib.hid (by rw [HF.out, findC_step _ _ hlt, if_neg (fun e => hp e.1)])
        generalize nameAt k = nk at *
        clear hp
        go_wp2_with fail
        go_roundw
        case rel => exact ⟨k + 1, by omega, by go_num, HR.out, HB2.out⟩
        case measure => simp [intOf]; omega
    · obtain rfl : k = 18 := by omega
      have HR : Hid (findC x 0 = none) := Lib.hid HF.out
      go_wp2_with fail
      go_ret
      exact ⟨by rw [HR.out]; rfl, HB'.out⟩
end Go.Proofs.YtddmlhcjbifkoaaDoor.Verb
/- The program's reading of handles, of fields, of words' heads. No conditions. -/
namespace Go.Proofs.YtddmlhcjbifkoaaDoor.Verb
open Go.Lib Go.RowKit Go.Proofs.YtddmlhcjbifkoaaDoor.Mem Go.Proofs.YtddmlhcjbifkoaaDoorW.PrintWords Go.Proofs.YtddmlhcjbifkoaaDoor.Item

set_option maxRecDepth 100000 in
set_option maxHeartbeats 1000000 in
theorem handleRead (s : ByteArray) (w : World) (hs : s.size ≤ 1000000) (he : Env w) : Calls Tryd.prog 80 #[.string s] w fun e w' =>
    e = .returned (.tuple #[.agg #[.int .i64 (handR (handleOf s.data.toList)).1, .int .i64 (handR (handleOf s.data.toList)).2.1], .bool (handR (handleOf s.data.toList)).2.2]) ∧ Below w.heap.size w w' := by
  have hu50 := Tryd.underlying50
  have HENV := Lib.hid he
  obtain ⟨wa, hwa⟩ : ∃ wa, wa = w.alloc (Obj.cells #[Value.int .i64 0, .int .i64 0] 50) := ⟨_, rfl⟩
  have HA : Hid (Below w.heap.size w wa) := by subst hwa; exact Lib.hid ((Below.refl _ _).alloc (Nat.le_refl _) _)
  have HBa : Hid (Blk wa w.heap.size #[.int .i64 0, .int .i64 0] 50) := by subst hwa; exact Lib.hid (Blk.new _ _ _)
  have HE := Lib.hid hwa
  clear hwa
  obtain ⟨m, hm⟩ := (he.step HA.out).max
  have hcut := Tryd.strings_Cut s ⟨#[46]⟩ m wa (by omega) hm
  obtain ⟨a, b, x, hc⟩ : ∃ a b x, Lib.cut s.data.toList [46] = (a, b, x) := ⟨_, _, _, rfl⟩
  have e0 : (⟨#[46]⟩ : ByteArray).data.toList = [46] := rfl
  rw [e0, hc] at hcut
  have HC : Hid (Calls Tryd.prog 54 #[.string s, .string ⟨#[46]⟩] wa fun e w' => e = .returned (.tuple #[.string (mk a), .string (mk b), .bool x]) ∧ ∃ n, w' = wa.drewN n) := Lib.hid hcut
  have lens : a.length ≤ s.size ∧ b.length ≤ s.size := by
    have hz := sz s
    unfold Lib.cut at hc
    split at hc <;> simp only [Prod.mk.injEq] at hc
    · rw [← hc.1, ← hc.2.1, List.length_take, List.length_drop]; omega
    · rw [← hc.1, ← hc.2.1]; simp
  have CA : Hid (∀ w1, Below w.heap.size w w1 → Calls Tryd.prog 79 #[.string (mk a)] w1 fun e w' => e = .returned (.tuple #[.int .i64 (numR (num a)).1, .bool (numR (num a)).2]) ∧ Below w1.heap.size w1 w') := Lib.hid (fun w1 hb => by
    have := numberOf (mk a) w1 (by rw [mk_size]; omega) (he.step hb)
    rw [mk_toList] at this; exact this)
  have CB : Hid (∀ w1, Below w.heap.size w w1 → Calls Tryd.prog 79 #[.string (mk b)] w1 fun e w' => e = .returned (.tuple #[.int .i64 (numR (num b)).1, .bool (numR (num b)).2]) ∧ Below w1.heap.size w1 w') := Lib.hid (fun w1 hb => by
    have := numberOf (mk b) w1 (by rw [mk_size]; omega) (he.step hb)
    rw [mk_toList] at this; exact this)
  have HIs := Lib.hid (handle_is hc)
  have CT : Hid (∀ i g w1, In64 i → In64 g → Below w.heap.size w w1 → Calls Tryd.prog 36 #[.agg #[.int .i64 i, .int .i64 g]] w1 fun e w' => e = .returned (.string (mk (handleTxt i g))) ∧ Below w1.heap.size w1 w') := Lib.hid (fun i g w1 hi hg hb => handle_ i g w1 hi hg (he.step hb))
  have HS : Hid (∀ l : List UInt8, mk l = s ↔ l = s.data.toList) := Lib.hid (fun l => ⟨fun h => by rw [← h, mk_toList], fun h => by rw [h, Item.mk_data]⟩)
  have NA : Hid (∀ v, num a = some v → In64 v) := Lib.hid (fun v hv => (num_some hv).2.1)
  have NB : Hid (∀ v, num b = some v → In64 v) := Lib.hid (fun v hv => (num_some hv).2.1)
  clear hcut hc lens hm hs he e0
  generalize mk a = ta at *
  generalize mk b = tb at *
  generalize handleOf s.data.toList = R at *
  obtain ⟨sl, hsl⟩ : ∃ l, l = s.data.toList := ⟨_, rfl⟩
  rw [← hsl] at HIs HS
  clear hsl
  go_enter Tryd.func80, Tryd.ntmps80
  go_wp2_with fail
  rw [← HE.out]
  refine (HC.out).mono ?_
  rintro e w1 ⟨rfl, n, hw1⟩
  have hb0 : Below wa.heap.size wa w1 := by subst hw1; exact pw_below_drewN (Below.refl _ _) _
  have HB1 : Hid (Below w.heap.size w w1) := Lib.hid (HA.out.trans (hb0.mono HA.out.size))
  have HK1 : Hid (Blk w1 w.heap.size #[.int .i64 0, .int .i64 0] 50) := Lib.hid (HBa.out.below hb0)
  clear hw1 HC hb0 HE HA HBa
  go_wp2_with fail
  refine (CA.out w1 HB1.out).mono ?_
  rintro e w2 ⟨rfl, hb⟩
  have HB2 : Hid (Below w.heap.size w w2) := Lib.hid (HB1.out.trans (hb.mono HB1.out.size))
  have HK2 := Lib.hid (HK1.out.below hb)
  clear hb HB1 HK1
  go_wp2_with fail
  refine (CB.out w2 HB2.out).mono ?_
  rintro e w3 ⟨rfl, hb⟩
  have HB3 : Hid (Below w.heap.size w w3) := Lib.hid (HB2.out.trans (hb.mono HB2.out.size))
  have HK3 := Lib.hid (HK2.out.below hb)
  clear hb HB2 HK2 CA CB
  cases hna : num a with
  | none =>
    have HR : Hid (R = none) := Lib.hid (by rw [HIs.out, hna])
    generalize numR (num b) = q at *
    clear HIs CT HS NA NB
    simp only [numR]
    have hka := HK3.out.alloc (Obj.cells #[Value.int .i64 0, Value.int .i64 q.1] 50)
    have y0 : (w3.alloc (Obj.cells #[Value.int .i64 0, Value.int .i64 q.1] 50)).cell? ⟨w.heap.size, 0, none⟩ = some (.int .i64 0) := hka.cell (j := 0) rfl
    have y1 : (w3.alloc (Obj.cells #[Value.int .i64 0, Value.int .i64 q.1] 50)).cell? ⟨w.heap.size, 1, none⟩ = some (.int .i64 0) := hka.cell (j := 1) rfl
    have f0 := hka.free 0
    have f1 := hka.free 1
    have HRB := Lib.hid hka
    have HB4 : Hid (Below w.heap.size w (w3.alloc (Obj.cells #[Value.int .i64 0, Value.int .i64 q.1] 50))) := Lib.hid (HB3.out.alloc (HB3.out.size) _)
    clear hka HB3 HK3
    go_wp2
    refine bodyPost_ret (results_ct rfl _ _ w.heap.size 50 #[.int .i64 0, .int .i64 0] (0, 0) _ rfl (((HRB.out).set 0 (.int .i64 0)).set 1 (.int .i64 0)) Tryd.underlying50 rfl (by kernel_rfl)) rfl ?_
    exact ⟨by rw [HR.out]; rfl, ((HB4.out).setCell (Nat.le_refl _) _).setCell (Nat.le_refl _) _⟩
  | some i =>
    have hi := NA.out i hna
    cases hnb : num b with
    | none =>
      have HR : Hid (R = none) := Lib.hid (by rw [HIs.out, hna, hnb])
      clear HIs CT HS NA NB
      simp only [numR]
      have hka := HK3.out.alloc (Obj.cells #[Value.int .i64 i, Value.int .i64 0] 50)
      have y0 : (w3.alloc (Obj.cells #[Value.int .i64 i, Value.int .i64 0] 50)).cell? ⟨w.heap.size, 0, none⟩ = some (.int .i64 0) := hka.cell (j := 0) rfl
      have y1 : (w3.alloc (Obj.cells #[Value.int .i64 i, Value.int .i64 0] 50)).cell? ⟨w.heap.size, 1, none⟩ = some (.int .i64 0) := hka.cell (j := 1) rfl
      have f0 := hka.free 0
      have f1 := hka.free 1
      have HRB := Lib.hid hka
      have HB4 : Hid (Below w.heap.size w (w3.alloc (Obj.cells #[Value.int .i64 i, Value.int .i64 0] 50))) := Lib.hid (HB3.out.alloc (HB3.out.size) _)
      clear hka HB3 HK3
      go_wp2
      refine bodyPost_ret (results_ct rfl _ _ w.heap.size 50 #[.int .i64 0, .int .i64 0] (0, 0) _ rfl (((HRB.out).set 0 (.int .i64 0)).set 1 (.int .i64 0)) Tryd.underlying50 rfl (by kernel_rfl)) rfl ?_
      exact ⟨by rw [HR.out]; rfl, ((HB4.out).setCell (Nat.le_refl _) _).setCell (Nat.le_refl _) _⟩
    | some g =>
      have hg := NB.out g hnb
      have HC4 := Lib.hid (fun w1 => CT.out i g w1 hi hg)
      have HR : Hid (R = if handleTxt i g = sl then some (i, g) else none) := Lib.hid (by rw [HIs.out, hna, hnb])
      have hS := HS.out (handleTxt i g)
      clear HIs CT HS NA NB hna hnb hi hg
      simp only [numR]
      by_cases ht : handleTxt i g = sl
      · have hS' := hS.2 ht
        rw [hS'] at HC4
        have HR' := Lib.hid (HR.out.trans (if_pos ht))
        clear hS hS' ht HR
        go_wp2_with fail
        refine (HC4.out _ (by first | exact HB3.out | (repeat (first | exact HB3.out | apply below_alloc | apply pw_below_drewN | apply below_drew1)))).mono ?_
        rintro e w4 ⟨rfl, hb⟩
        have hX := (Blk.new w3 #[.int .i64 i, .int .i64 g] 50).below hb
        have hr := (HK3.out.below ((Below.refl _ _).alloc (Nat.le_refl _) (Obj.cells #[Value.int .i64 i, .int .i64 g] 50))).below hb
        have x0 : w4.cell? ⟨w3.heap.size, 0, none⟩ = some (.int .i64 i) := hX.cell (j := 0) rfl
        have x1 : w4.cell? ⟨w3.heap.size, 1, none⟩ = some (.int .i64 g) := hX.cell (j := 1) rfl
        have r0 : w4.cell? ⟨w.heap.size, 0, none⟩ = some (.int .i64 0) := hr.cell (j := 0) rfl
        have r1 : w4.cell? ⟨w.heap.size, 1, none⟩ = some (.int .i64 0) := hr.cell (j := 1) rfl
        have f0 := hr.free 0
        have f1 := hr.free 1
        have HB4 : Hid (Below w.heap.size w w4) := Lib.hid ((HB3.out.trans (((Below.refl _ _).alloc (Nat.le_refl _) _).mono HB3.out.size)).trans (hb.mono (HB3.out.alloc (HB3.out.size) _).size))
        have HRB := Lib.hid hr
        clear hb hX hr HK3 HB3 HC4
        go_wp2
        refine bodyPost_ret (results_ct rfl _ _ w.heap.size 50 #[.int .i64 i, .int .i64 g] (0, 0) _ rfl (((HRB.out).set 0 (.int .i64 i)).set 1 (.int .i64 g)) Tryd.underlying50 rfl (by kernel_rfl)) rfl ?_
        exact ⟨by rw [HR'.out]; rfl, ((HB4.out).setCell (Nat.le_refl _) _).setCell (Nat.le_refl _) _⟩
      · have hne : ((mk (handleTxt i g)).toList == s.toList) = false := beq_eq_false_iff_ne.2 (fun h => ht (hS.1 (toList_inj.1 h)))
        have HR' := Lib.hid (HR.out.trans (if_neg ht))
        generalize mk (handleTxt i g) = tt at *
        clear hS ht HR
        go_wp2_with fail
        refine (HC4.out _ (by first | exact HB3.out | (repeat (first | exact HB3.out | apply below_alloc | apply pw_below_drewN | apply below_drew1)))).mono ?_
        rintro e w4 ⟨rfl, hb⟩
        have hX := (Blk.new w3 #[.int .i64 i, .int .i64 g] 50).below hb
        have hr := (HK3.out.below ((Below.refl _ _).alloc (Nat.le_refl _) (Obj.cells #[Value.int .i64 i, .int .i64 g] 50))).below hb
        have x0 : w4.cell? ⟨w3.heap.size, 0, none⟩ = some (.int .i64 i) := hX.cell (j := 0) rfl
        have x1 : w4.cell? ⟨w3.heap.size, 1, none⟩ = some (.int .i64 g) := hX.cell (j := 1) rfl
        have r0 : w4.cell? ⟨w.heap.size, 0, none⟩ = some (.int .i64 0) := hr.cell (j := 0) rfl
        have r1 : w4.cell? ⟨w.heap.size, 1, none⟩ = some (.int .i64 0) := hr.cell (j := 1) rfl
        have f0 := hr.free 0
        have f1 := hr.free 1
        have HB4 : Hid (Below w.heap.size w w4) := Lib.hid ((HB3.out.trans (((Below.refl _ _).alloc (Nat.le_refl _) _).mono HB3.out.size)).trans (hb.mono (HB3.out.alloc (HB3.out.size) _).size))
        have HRB := Lib.hid hr
        clear hb hX hr HK3 HB3 HC4
        go_wp2
        refine bodyPost_ret (results_ct rfl _ _ w.heap.size 50 #[.int .i64 0, .int .i64 0] (0, 0) _ rfl (((HRB.out).set 0 (.int .i64 0)).set 1 (.int .i64 0)) Tryd.underlying50 rfl (by kernel_rfl)) rfl ?_
        exact ⟨by rw [HR'.out]; rfl, ((HB4.out).setCell (Nat.le_refl _) _).setCell (Nat.le_refl _) _⟩
end Go.Proofs.YtddmlhcjbifkoaaDoor.Verb
namespace Go.Proofs.YtddmlhcjbifkoaaDoor.Verb
open Go.Lib Go.RowKit Go.Proofs.YtddmlhcjbifkoaaDoor.Mem Go.Proofs.YtddmlhcjbifkoaaDoorW.PrintWords Go.Proofs.YtddmlhcjbifkoaaDoor.Item
/-- What is said, in memory. -/
abbrev cellsS (s : SaidV) : Array Value := #[.int .i64 s.say, .int .i64 s.i, .int .i64 s.g, .int .i64 s.t, .int .i64 s.n]
def TakePost (B : Nat) (s : SaidV) (f : Fld) (x : ByteArray) (w : World) (e : Ending) (w' : World) : Prop :=
  ∃ (b : Bool) (s' : SaidV), e = .returned (.bool b) ∧ putF s f x = (if b = true then some s' else none) ∧ Blk w' B (cellsS s') 52 ∧ Chg (fun k => k = B) w w'

set_option maxRecDepth 100000 in
set_option maxHeartbeats 1000000 in
theorem take_t (B : Nat) (s : SaidV) (x : ByteArray) (w : World) (hB : Blk w B (cellsS s) 52) (hs : x.size ≤ 1000000) (he : Env w) :
    Calls Tryd.prog 58 #[.pointer (some ⟨B, 0, none⟩), .int .u8 116, .string x] w (TakePost B s .T x w) := by
  have hu52 := Tryd.underlying52
  have C := Lib.hid (numberOf x w hs he)
  obtain ⟨v, b, hvb⟩ : ∃ v b, numR (num x.data.toList) = (v, b) := ⟨_, _, rfl⟩
  have HP : Hid (putF s .T x = (if b = true then some { s with t := v } else none)) := Lib.hid (by
    unfold putF
    cases hn : num x.data.toList with
    | none => rw [hn] at hvb; injection hvb with h1 h2; subst h2; rfl
    | some u => rw [hn] at hvb; injection hvb with h1 h2; subst h1; subst h2; rfl)
  rw [hvb] at C
  have HX := Lib.hid hB
  clear hvb hB hs he
  go_enter Tryd.func58, Tryd.ntmps58
  go_wp2_with fail
  refine C.out.mono ?_
  rintro e w1 ⟨rfl, hb⟩
  have HX1 := Lib.hid (HX.out.below hb)
  have f3 := HX1.out.free 3
  have c3 : w1.cell? ⟨B, 3, none⟩ = some (.int .i64 s.t) := HX1.out.cell (j := 3) rfl
  have HC1 : Hid (Chg (fun k => k = B) w w1) := Lib.hid (Chg.of_below hb)
  clear hb C HX
  go_wp2_with fail
  go_ret
  exact ⟨b, { s with t := v }, rfl, HP.out, HX1.out.set 3 _, HC1.out.set (p := ⟨B, 3, none⟩) (fun _ => rfl) _⟩
set_option maxRecDepth 100000 in
set_option maxHeartbeats 1000000 in
theorem take_n (B : Nat) (s : SaidV) (x : ByteArray) (w : World) (hB : Blk w B (cellsS s) 52) (hs : x.size ≤ 1000000) (he : Env w) :
    Calls Tryd.prog 58 #[.pointer (some ⟨B, 0, none⟩), .int .u8 110, .string x] w (TakePost B s .N x w) := by
  have hu52 := Tryd.underlying52
  have C := Lib.hid (numberOf x w hs he)
  obtain ⟨v, b, hvb⟩ : ∃ v b, numR (num x.data.toList) = (v, b) := ⟨_, _, rfl⟩
  have HP : Hid (putF s .N x = (if b = true then some { s with n := v } else none)) := Lib.hid (by
    unfold putF
    cases hn : num x.data.toList with
    | none => rw [hn] at hvb; injection hvb with h1 h2; subst h2; rfl
    | some u => rw [hn] at hvb; injection hvb with h1 h2; subst h1; subst h2; rfl)
  rw [hvb] at C
  have HX := Lib.hid hB
  clear hvb hB hs he
  go_enter Tryd.func58, Tryd.ntmps58
  go_wp2_with fail
  refine C.out.mono ?_
  rintro e w1 ⟨rfl, hb⟩
  have HX1 := Lib.hid (HX.out.below hb)
  have f3 := HX1.out.free 4
  have c3 : w1.cell? ⟨B, 4, none⟩ = some (.int .i64 s.n) := HX1.out.cell (j := 4) rfl
  have HC1 : Hid (Chg (fun k => k = B) w w1) := Lib.hid (Chg.of_below hb)
  clear hb C HX
  go_wp2_with fail
  go_ret
  exact ⟨b, { s with n := v }, rfl, HP.out, HX1.out.set 4 _, HC1.out.set (p := ⟨B, 4, none⟩) (fun _ => rfl) _⟩
set_option maxRecDepth 100000 in
set_option maxHeartbeats 1000000 in
theorem take_h (B : Nat) (s : SaidV) (x : ByteArray) (w : World) (hB : Blk w B (cellsS s) 52) (hs : x.size ≤ 1000000) (he : Env w) :
    Calls Tryd.prog 58 #[.pointer (some ⟨B, 0, none⟩), .int .u8 104, .string x] w (TakePost B s .H x w) := by
  have hu52 := Tryd.underlying52
  have hu50 := Tryd.underlying50
  have C := Lib.hid (handleRead x w hs he)
  obtain ⟨v, u, b, hvb⟩ : ∃ v u b, handR (handleOf x.data.toList) = (v, u, b) := ⟨_, _, _, rfl⟩
  have HP : Hid (putF s .H x = (if b = true then some { s with i := v, g := u } else none)) := Lib.hid (by
    unfold putF
    cases hn : handleOf x.data.toList with
    | none => rw [hn] at hvb; injection hvb with h1 h2; injection h2 with h2 h3; subst h3; rfl
    | some p => rw [hn] at hvb; injection hvb with h1 h2; injection h2 with h2 h3; subst h1; subst h2; subst h3; rfl)
  rw [hvb] at C
  have HX := Lib.hid hB
  clear hvb hB hs he
  go_enter Tryd.func58, Tryd.ntmps58
  go_wp2_with fail
  refine C.out.mono ?_
  rintro e w1 ⟨rfl, hb⟩
  have HX1 := Lib.hid (HX.out.below hb)
  have f1 := HX1.out.free 1
  have f2 := HX1.out.free 2
  have c1 : w1.cell? ⟨B, 1, none⟩ = some (.int .i64 s.i) := HX1.out.cell (j := 1) rfl
  have c2 : w1.cell? ⟨B, 2, none⟩ = some (.int .i64 s.g) := HX1.out.cell (j := 2) rfl
  have HC1 : Hid (Chg (fun k => k = B) w w1) := Lib.hid (Chg.of_below hb)
  clear hb C HX
  go_wp2_with fail
  go_ret
  exact ⟨b, { s with i := v, g := u }, rfl, HP.out, (HX1.out.set 1 _).set 2 _, (HC1.out.set (p := ⟨B, 1, none⟩) (fun _ => rfl) _).set (p := ⟨B, 2, none⟩) (fun _ => rfl) _⟩
end Go.Proofs.YtddmlhcjbifkoaaDoor.Verb
namespace Go.Proofs.YtddmlhcjbifkoaaDoor.Verb
open Go.Lib Go.RowKit Go.Proofs.YtddmlhcjbifkoaaDoor.Mem Go.Proofs.YtddmlhcjbifkoaaDoorW.PrintWords Go.Proofs.YtddmlhcjbifkoaaDoor.Item
theorem cell_str {A : Option Addr} {n : Nat} {xs : List ByteArray} {w : World} {i : Nat} {x : ByteArray} (h : Kd.C Kd.string w A n xs) (hx : xs[i]? = some x) : ∃ ad, A = some ad ∧ w.cell? (ad.add i) = some (.string x) := by
  have hi := (List.getElem?_eq_some_iff.1 hx).1
  have hn := Kd.C_len h
  obtain ⟨ad, hA, hc⟩ := h.2.2 (by omega)
  obtain ⟨cs, _, hk, hcell⟩ := hc i x hx
  have hk : cs = [.string x] := hk
  subst hk
  have := hcell 0 (.string x) rfl
  exact ⟨ad, hA, by simpa [Kd.string, Kd.scalar] using this⟩
theorem nameAt_inj : ∀ i, i < 18 → ∀ j, j < 18 → 0 < i → 0 < j → nameAt i = nameAt j → i = j := by
  have h : ∀ i, i < 18 → ∀ j, j < 18 → 0 < i → 0 < j → (nameAt i).data.toList = (nameAt j).data.toList → i = j := by decide +kernel
  exact fun i hi j hj a b e => h i hi j hj a b (by rw [e])
theorem add_zero' (a : Addr) : a.add 0 = a := by
  cases a with
  | mk b o e => unfold Addr.add; split <;> simp_all
/-- What the first word names decides. -/
theorem firstC_of {x : ByteArray} {n j : Nat} (h : findC x 0 = some j) : j < 18 ∧ 0 < j ∧ nameAt j = x ∧ firstC x n 1 = (if (wantsF j).length = n then some j else none) := by
  unfold findC at h
  have h1 := List.find?_some h
  have h2 := List.mem_of_find?_eq_some h
  rw [List.mem_range'_1] at h2
  simp only [Bool.and_eq_true, decide_eq_true_eq] at h1
  have hj : j < 18 := by omega
  refine ⟨hj, h1.1, h1.2, ?_⟩
  unfold firstC
  by_cases hn : (wantsF j).length = n
  · rw [if_pos hn]
    cases hf : (List.range' 1 (18 - 1)).find? (fun j => decide (nameAt j = x) && decide ((wantsF j).length = n)) with
    | none =>
      have := List.find?_eq_none.1 hf j (by rw [List.mem_range'_1]; omega)
      simp [h1.2, hn] at this
    | some i =>
      have h3 := List.find?_some hf
      have h4 := List.mem_of_find?_eq_some hf
      rw [List.mem_range'_1] at h4
      simp only [Bool.and_eq_true, decide_eq_true_eq] at h3
      rw [nameAt_inj i (by omega) j hj (by omega) h1.1 (h3.1.trans h1.2.symm)]
  · rw [if_neg hn, List.find?_eq_none]
    intro i hi
    rw [List.mem_range'_1] at hi
    simp only [Bool.and_eq_true, decide_eq_true_eq, not_and]
    intro e
    rw [nameAt_inj i (by omega) j hj (by omega) h1.1 (e.trans h1.2.symm)]
    exact hn
theorem firstC_none {x : ByteArray} {n : Nat} (h : findC x 0 = none) : firstC x n 1 = none := by
  unfold findC at h
  unfold firstC
  rw [List.find?_eq_none] at h ⊢
  intro i hi
  rw [List.mem_range'_1] at hi
  have := h i (by rw [List.mem_range'_1]; omega)
  simp only [Bool.and_eq_true, decide_eq_true_eq, not_and] at this ⊢
  intro e
  exact absurd e (this (by omega))
def ParsePost (ws : List ByteArray) (w : World) (e : Ending) (w' : World) : Prop := e = .returned (.tuple #[.agg (cellsS (parseR ws).1), .int .i64 (parseR ws).2]) ∧ Below w.heap.size w w'
set_option maxRecDepth 100000 in
set_option maxHeartbeats 1000000 in
theorem parse_nil (A : Option Addr) (c : Nat) (w : World) : Calls Tryd.prog 32 #[.slice A 0 c] w (ParsePost [] w) := by
  have hu52 := Tryd.underlying52
  have hu50 := Tryd.underlying50
  have HX : Hid (Blk (w.alloc (Obj.cells #[Value.int .i64 0, .int .i64 0, .int .i64 0, .int .i64 0, .int .i64 0] 52)) w.heap.size #[Value.int .i64 0, .int .i64 0, .int .i64 0, .int .i64 0, .int .i64 0] 52) := Lib.hid (Blk.new _ _ _)
  have HB : Hid (Below w.heap.size w (w.alloc (Obj.cells #[Value.int .i64 0, .int .i64 0, .int .i64 0, .int .i64 0, .int .i64 0] 52))) := Lib.hid ((Below.refl _ _).alloc (Nat.le_refl _) _)
  have HR : Hid (parseR [] = (zeroS, 0)) := Lib.hid rfl
  have t0 : (((0 : Nat) : Int) == 0) = true := rfl
  go_enter Tryd.func32, Tryd.ntmps32
  go_wp2_with fail
  refine bodyPost_ret (results_ct rfl _ _ w.heap.size 52 #[Value.int .i64 0, .int .i64 0, .int .i64 0, .int .i64 0, .int .i64 0] (0, 0) _ rfl HX.out Tryd.underlying52 rfl (by kernel_rfl)) rfl ?_
  exact ⟨by rw [HR.out]; rfl, HB.out⟩
set_option maxRecDepth 100000 in
set_option maxHeartbeats 1000000 in
theorem parse_none (A : Option Addr) (c : Nat) (x : ByteArray) (r : List ByteArray) (w : World) (hC : Kd.C Kd.string w A (x :: r).length (x :: r)) (hT : Tbl w) (hn : findC x 0 = none) : Calls Tryd.prog 32 #[.slice A (x :: r).length c] w (ParsePost (x :: r) w) := by
  have hu52 := Tryd.underlying52
  have hu50 := Tryd.underlying50
  have HX : Hid (Blk (w.alloc (Obj.cells #[Value.int .i64 0, .int .i64 0, .int .i64 0, .int .i64 0, .int .i64 0] 52)) w.heap.size #[Value.int .i64 0, .int .i64 0, .int .i64 0, .int .i64 0, .int .i64 0] 52) := Lib.hid (Blk.new _ _ _)
  have hb : Below w.heap.size w (w.alloc (Obj.cells #[Value.int .i64 0, .int .i64 0, .int .i64 0, .int .i64 0, .int .i64 0] 52)) := (Below.refl _ _).alloc (Nat.le_refl _) _
  have HB := Lib.hid hb
  obtain ⟨ad, hA, c0⟩ := cell_str (Kd.C_below hC hb) (i := 0) rfl
  subst hA
  rw [add_zero'] at c0
  have CF := Lib.hid (find_ x _ (hT.step hb))
  rw [hn] at CF
  have HR : Hid (parseR (x :: r) = (zeroS, 31)) := Lib.hid (by show parseC (firstC x r.length 1) r = _; rw [firstC_none hn]; rfl)
  have hl : (((x :: r).length : Nat) : Int) ≠ 0 := by rw [List.length_cons]; omega
  have hl0 : (0 : Int) < (((x :: r).length : Nat) : Int) := by rw [List.length_cons]; omega
  have t0 : ((((x :: r).length : Nat) : Int) == 0) = false := beq_eq_false_iff_ne.2 hl
  generalize (x :: r).length = n at *
  clear hb hC hT hn hl
  go_enter Tryd.func32, Tryd.ntmps32
  go_wp2_with fail
  refine CF.out.mono ?_
  rintro e w1 ⟨rfl, hb⟩
  have HX1 := Lib.hid (HX.out.below hb)
  have HB1 := Lib.hid (HB.out.trans (hb.mono HB.out.size))
  have d0 := HX1.out.cell (j := 0) rfl
  have d1 := HX1.out.cell (j := 1) rfl
  have d2 := HX1.out.cell (j := 2) rfl
  have d3 := HX1.out.cell (j := 3) rfl
  have d4 := HX1.out.cell (j := 4) rfl
  have f0 := HX1.out.free 0
  have f1 := HX1.out.free 1
  have f2 := HX1.out.free 2
  have f3 := HX1.out.free 3
  have f4 := HX1.out.free 4
  clear hb c0 CF HX HB
  simp only [findI]
  go_wp2_with fail
  refine bodyPost_ret (results_ct rfl _ _ w.heap.size 52 #[Value.int .i64 0, .int .i64 0, .int .i64 0, .int .i64 0, .int .i64 0] (0, 0) _ rfl ((((((HX1.out).set 0 (.int .i64 0)).set 1 (.int .i64 0)).set 2 (.int .i64 0)).set 3 (.int .i64 0)).set 4 (.int .i64 0)) Tryd.underlying52 rfl (by kernel_rfl)) rfl ?_
  exact ⟨by rw [HR.out]; rfl, (((((HB1.out).setCell (Nat.le_refl _) _).setCell (Nat.le_refl _) _).setCell (Nat.le_refl _) _).setCell (Nat.le_refl _) _).setCell (Nat.le_refl _) _⟩
end Go.Proofs.YtddmlhcjbifkoaaDoor.Verb
/- What words say, by the program: the fields. No conditions. -/
namespace Go.Proofs.YtddmlhcjbifkoaaDoor.Verb
open Go.Lib Go.RowKit Go.Proofs.YtddmlhcjbifkoaaDoor.Mem Go.Proofs.YtddmlhcjbifkoaaDoorW.PrintWords Go.Proofs.YtddmlhcjbifkoaaDoor.Item

set_option maxRecDepth 100000 in
set_option maxHeartbeats 1000000 in
theorem parse_bad (A : Option Addr) (c : Nat) (x : ByteArray) (r : List ByteArray) (w : World) (hC : Kd.C Kd.string w A (x :: r).length (x :: r)) (hT : Tbl w) {j : Nat} (hn : findC x 0 = some j) (hbad : (wantsF j).length ≠ r.length) (hr : r.length ≤ 1000000) : Calls Tryd.prog 32 #[.slice A (x :: r).length c] w (ParsePost (x :: r) w) := by
  have hu52 := Tryd.underlying52
  have hu50 := Tryd.underlying50
  have hu84 := Tryd.underlying84
  have hu85 := Tryd.underlying85
  have HX : Hid (Blk (w.alloc (Obj.cells #[Value.int .i64 0, .int .i64 0, .int .i64 0, .int .i64 0, .int .i64 0] 52)) w.heap.size #[Value.int .i64 0, .int .i64 0, .int .i64 0, .int .i64 0, .int .i64 0] 52) := Lib.hid (Blk.new _ _ _)
  have hb : Below w.heap.size w (w.alloc (Obj.cells #[Value.int .i64 0, .int .i64 0, .int .i64 0, .int .i64 0, .int .i64 0] 52)) := (Below.refl _ _).alloc (Nat.le_refl _) _
  have HB := Lib.hid hb
  obtain ⟨ad, hA, c0⟩ := cell_str (Kd.C_below hC hb) (i := 0) rfl
  subst hA
  rw [add_zero'] at c0
  have CF := Lib.hid (find_ x _ (hT.step hb))
  rw [hn] at CF
  obtain ⟨hj, hj0, hjx, hfc⟩ := firstC_of (n := r.length) hn
  have HT := Lib.hid hT
  have hl : (((x :: r).length : Nat) : Int) ≠ 0 := by rw [List.length_cons]; omega
  have hl0 : (0 : Int) < (((x :: r).length : Nat) : Int) := by rw [List.length_cons]; omega
  have t0 : ((((x :: r).length : Nat) : Int) == 0) = false := beq_eq_false_iff_ne.2 hl
  have t1 : decide ((j : Int) < 0) = false := decide_eq_false (by omega)
  have j0 : (0 : Int) ≤ j := by omega
  have j1 : (j : Int) < 18 := by omega
  have j2 : ((j : Int)).toNat = j := by omega
  have HR : Hid (parseR (x :: r) = (zeroS, 31)) := Lib.hid (by show parseC (firstC x r.length 1) r = _; rw [hfc, if_neg hbad]; rfl)
  obtain ⟨L, hL⟩ : ∃ L, L = lowAt j := ⟨_, rfl⟩
  have hLs : L.size = (wantsF j).length := by rw [hL, ← low_is j hj, List.length_map, sz]
  have hw0 : wrap64 (1 + (L.size : Int)) = 1 + (L.size : Int) := by have := few j hj; unfold wrap64; omega
  have t2 : ((((x :: r).length : Nat) : Int) == 1 + (L.size : Int)) = false := beq_eq_false_iff_ne.2 (by rw [List.length_cons]; omega)
  have HW : Hid (∀ w', Below w.heap.size w w' → w'.cell? ⟨0, j * 2 + 1, none⟩ = some (.string L)) := Lib.hid (fun w' hb => by rw [hL, Nat.mul_comm j 2]; exact (HT.out.step hb).wants hj)
  generalize (x :: r).length = n at *
  clear hb hC hT hn hl hj hj0 hjx hfc hbad hr hL hLs
  go_enter Tryd.func32, Tryd.ntmps32
  go_wp2_with fail
  refine CF.out.mono ?_
  rintro e w1 ⟨rfl, hb⟩
  have HX1 := Lib.hid (HX.out.below hb)
  have HB1 := Lib.hid (HB.out.trans (hb.mono HB.out.size))
  have cw := HW.out _ HB1.out
  have d0 := HX1.out.cell (j := 0) rfl
  have d1 := HX1.out.cell (j := 1) rfl
  have d2 := HX1.out.cell (j := 2) rfl
  have d3 := HX1.out.cell (j := 3) rfl
  have d4 := HX1.out.cell (j := 4) rfl
  have f0 := HX1.out.free 0
  have f1 := HX1.out.free 1
  have f2 := HX1.out.free 2
  have f3 := HX1.out.free 3
  have f4 := HX1.out.free 4
  clear hb c0 CF HX HB HW HT
  simp only [findI]
  go_wp2_with fail
  trace_state
  refine bodyPost_ret (results_ct rfl _ _ w.heap.size 52 #[Value.int .i64 0, .int .i64 0, .int .i64 0, .int .i64 0, .int .i64 0] (0, 0) _ rfl ((((((HX1.out).set 0 (.int .i64 0)).set 1 (.int .i64 0)).set 2 (.int .i64 0)).set 3 (.int .i64 0)).set 4 (.int .i64 0)) Tryd.underlying52 rfl (by kernel_rfl)) rfl ?_
  exact ⟨by rw [HR.out]; rfl, (((((HB1.out).setCell (Nat.le_refl _) _).setCell (Nat.le_refl _) _).setCell (Nat.le_refl _) _).setCell (Nat.le_refl _) _).setCell (Nat.le_refl _) _⟩
end Go.Proofs.YtddmlhcjbifkoaaDoor.Verb
namespace Go.Proofs.YtddmlhcjbifkoaaDoor.Verb
open Go.Lib Go.RowKit Go.Proofs.YtddmlhcjbifkoaaDoor.Mem Go.Proofs.YtddmlhcjbifkoaaDoorW.PrintWords Go.Proofs.YtddmlhcjbifkoaaDoor.Item

set_option maxRecDepth 100000 in
set_option maxHeartbeats 4000000 in
theorem parse_loop (A : Option Addr) (c : Nat) (x : ByteArray) (r : List ByteArray) (w : World) (hC : Kd.C Kd.string w A (x :: r).length (x :: r)) (hc : (x :: r).length ≤ c) (hz : ∀ y ∈ r, y.size ≤ 1000000) (hT : Tbl w) (he : Env w) {j : Nat} (hn : findC x 0 = some j) (hok : (wantsF j).length = r.length) : Calls Tryd.prog 32 #[.slice A (x :: r).length c] w (ParsePost (x :: r) w) := by
  have hu52 := Tryd.underlying52
  have hu50 := Tryd.underlying50
  have hu84 := Tryd.underlying84
  have hu85 := Tryd.underlying85
  have HX : Hid (Blk (w.alloc (Obj.cells #[Value.int .i64 0, .int .i64 0, .int .i64 0, .int .i64 0, .int .i64 0] 52)) w.heap.size #[Value.int .i64 0, .int .i64 0, .int .i64 0, .int .i64 0, .int .i64 0] 52) := Lib.hid (Blk.new _ _ _)
  have hb : Below w.heap.size w (w.alloc (Obj.cells #[Value.int .i64 0, .int .i64 0, .int .i64 0, .int .i64 0, .int .i64 0] 52)) := (Below.refl _ _).alloc (Nat.le_refl _) _
  have HB := Lib.hid hb
  obtain ⟨ad, hA, c0⟩ := cell_str (Kd.C_below hC hb) (i := 0) rfl
  subst hA
  rw [add_zero'] at c0
  have CF := Lib.hid (find_ x _ (hT.step hb))
  rw [hn] at CF
  obtain ⟨hj, hj0, hjx, hfc⟩ := firstC_of (n := r.length) hn
  have HT := Lib.hid hT
  have hl : (((x :: r).length : Nat) : Int) ≠ 0 := by rw [List.length_cons]; omega
  have hl0 : (0 : Int) < (((x :: r).length : Nat) : Int) := by rw [List.length_cons]; omega
  have t0 : ((((x :: r).length : Nat) : Int) == 0) = false := beq_eq_false_iff_ne.2 hl
  have t1 : decide ((j : Int) < 0) = false := decide_eq_false (by omega)
  have j0 : (0 : Int) ≤ j := by omega
  have j1 : (j : Int) < 18 := by omega
  have j2 : ((j : Int)).toNat = j := by omega
  have HR : Hid (parseR (x :: r) = outP (goP ⟨j, 0, 0, 0, 0⟩ (wantsF j) r)) := Lib.hid (by show parseC (firstC x r.length 1) r = _; rw [hfc, if_pos hok]; rfl)
  obtain ⟨L, hL⟩ : ∃ L, L = lowAt j := ⟨_, rfl⟩
  have hLs : L.size = r.length := by rw [hL, ← hok, ← low_is j hj, List.length_map, sz]
  have hr2 : r.length ≤ 2 := by rw [← hok]; exact few j hj
  have hw0 : wrap64 (1 + (L.size : Int)) = 1 + (L.size : Int) := by unfold wrap64; omega
  have t2 : ((((x :: r).length : Nat) : Int) == 1 + (L.size : Int)) = true := beq_iff_eq.2 (by rw [List.length_cons]; omega)
  have HW : Hid (∀ w', Below w.heap.size w w' → w'.cell? ⟨0, j * 2 + 1, none⟩ = some (.string L)) := Lib.hid (fun w' hb => by rw [hL, Nat.mul_comm j 2]; exact (HT.out.step hb).wants hj)
  have HLc : Hid (∀ (k : Nat), k < r.length → ∃ cc, L.data.toList[k]? = some cc ∧ (cc = 116 ∨ cc = 110 ∨ cc = 104) ∧ (wantsF j)[k]? = some (lowF cc)) := Lib.hid (fun k hk => by
    have hk' : k < (lowAt j).data.toList.length := by rw [← hL, sz]; omega
    refine ⟨(lowAt j).data.toList[k], by rw [hL]; exact List.getElem?_eq_getElem hk', low_chars j hj _ (List.getElem_mem hk'), ?_⟩
    rw [← low_is j hj, List.getElem?_map, List.getElem?_eq_getElem hk']
    rfl)
  have HWd : Hid (∀ (k : Nat) (y : ByteArray), r[k]? = some y → ∀ w', Below w.heap.size w w' → w'.cell? (ad.add (1 + k)) = some (.string y)) := Lib.hid (fun k y hy w' hb => by
    obtain ⟨ad', hA', hc'⟩ := cell_str (Kd.C_below hC hb) (i := 1 + k) (by rw [Nat.add_comm 1 k]; exact hy)
    cases hA'
    exact hc')
  have HE := Lib.hid he
  have HZ := Lib.hid hz
  obtain ⟨m, hm⟩ : ∃ m, m = r.length := ⟨_, rfl⟩
  have hlen : (x :: r).length = m + 1 := by rw [List.length_cons, hm]
  rw [hlen] at hc hl hl0 t0 t2 ⊢
  rw [← hm] at hLs hr2 HLc hok
  have HM := Lib.hid hm
  have HO := Lib.hid hok
  have hc1 : 1 ≤ c := by omega
  have t3 : ((m : Int) + 1 == 0) = false := beq_eq_false_iff_ne.2 (by omega)
  have t4 : ((m : Int) + 1 != 1 + (m : Int)) = false := by simp only [bne_eq_false_iff_eq]; omega
  rcases Nat.eq_or_lt_of_le hc1 with h1 | h1
  case' inl =>
    subst h1
    have hm0 : m = 0 := by omega
  case' inr =>
    have hn1 : ¬ (c = 1) := by omega
    have hn2 : ¬ (1 = c) := by omega
  all_goals
    clear hb hC hT hn hl hj hj0 hjx hfc hok hL he hz hm hlen
    go_enter Tryd.func32, Tryd.ntmps32
    go_wp2_with fail
    refine CF.out.mono ?_
    rintro e w1 ⟨rfl, hb⟩
    have HX1 := Lib.hid (HX.out.below hb)
    have HB1 := Lib.hid (HB.out.trans (hb.mono HB.out.size))
    have cw := HW.out _ HB1.out
    have hlt0 := HX1.out.lt
    clear hb c0 CF HX HB HT
    simp only [findI]
    go_wp2_with fail
    have HS : Hid (Blk (w1.alloc (Obj.cells #[Value.int .i64 j, .int .i64 0, .int .i64 0, .int .i64 0, .int .i64 0] 52)) w1.heap.size (cellsS ⟨j, 0, 0, 0, 0⟩) 52) := Lib.hid (Blk.new _ _ _)
    have HXs : Hid (Blk (w1.alloc (Obj.cells #[Value.int .i64 j, .int .i64 0, .int .i64 0, .int .i64 0, .int .i64 0] 52)) w.heap.size #[Value.int .i64 0, .int .i64 0, .int .i64 0, .int .i64 0, .int .i64 0] 52) := Lib.hid (HX1.out.alloc _)
    have HBs : Hid (Below w.heap.size w (w1.alloc (Obj.cells #[Value.int .i64 j, .int .i64 0, .int .i64 0, .int .i64 0, .int .i64 0] 52))) := Lib.hid (HB1.out.alloc HB1.out.size _)
    have HLt := Lib.hid hlt0
    have HSz := Lib.hid HB1.out.size
    clear cw HX1 HB1 hlt0
    go_loopw [35] (fun i wr => ∃ (k : Nat) (s : SaidV), k ≤ m ∧ i = .int .i64 k ∧ goP ⟨j, 0, 0, 0, 0⟩ (wantsF j) r = goP s ((wantsF j).drop k) (r.drop k) ∧ Blk wr w1.heap.size (cellsS s) 52 ∧ Blk wr w.heap.size #[Value.int .i64 0, .int .i64 0, .int .i64 0, .int .i64 0, .int .i64 0] 52 ∧ Below w.heap.size w wr) (fun i _ => m - (intOf i).toNat)
    case atStart => exact ⟨0, _, Nat.zero_le _, rfl, rfl, HS.out, HXs.out, HBs.out⟩
    case round =>
      clear HS HXs HBs
      obtain ⟨k, s, hk, rfl, hg, hs, hx, hb⟩ := hrel
      have HG := Lib.hid hg
      have HS := Lib.hid hs
      have HX := Lib.hid hx
      have HB := Lib.hid hb
      clear hg hs hx hb
      by_cases hlt : k < m
      · try (exfalso; omega)
        all_goals
          obtain ⟨y, hy⟩ : ∃ y, r[k]? = some y := ⟨_, List.getElem?_eq_getElem (by rw [← HM.out]; exact hlt)⟩
          have HY := Lib.hid hy
          have cy := HWd.out k y hy wr HB.out
          rw [Nat.add_comm 1 k, Addr.add_succ'] at cy
          rw [show ad.off + (k + 1) = ad.off + 1 + k by omega] at cy
          have cw := HW.out _ HB.out
          obtain ⟨cc, hcc, hch, hfc⟩ := HLc.out k hlt
          have HFc := Lib.hid hfc
          have hlk : k < L.size := by omega
          have hLk : L[k] = cc := by
            have e : L.data.toList[k]? = some L[k] := by
              rw [List.getElem?_eq_getElem (by rw [sz]; exact hlk)]
              rfl
            rw [e] at hcc
            injection hcc
          have HSt : Hid (goP s ((wantsF j).drop k) (r.drop k) = (putF s (lowF cc) y).bind fun s' => goP s' ((wantsF j).drop (k + 1)) (r.drop (k + 1))) := Lib.hid (by
            have hkw := (List.getElem?_eq_some_iff.1 hfc)
            have hkr := (List.getElem?_eq_some_iff.1 hy)
            rw [List.drop_eq_getElem_cons hkw.1, List.drop_eq_getElem_cons hkr.1, hkw.2, hkr.2]
            rfl)
          have k0 : (0 : Int) ≤ k := by omega
          have k1 : (k : Int) < m := by omega
          have k2 : ((k : Int)).toNat = k := by omega
          have k3 : (k : Int) < L.size := by omega
          have HEr := Lib.hid (HE.out.step HB.out)
          have HZy := Lib.hid (HZ.out y (List.mem_of_getElem? HY.out))
          have TK : Hid (Calls Tryd.prog 58 #[.pointer (some ⟨w1.heap.size, 0, none⟩), .int .u8 (L[k].toNat : Int), .string y] wr (TakePost w1.heap.size s (lowF cc) y wr)) := Lib.hid (by
            rw [hLk]
            rcases hch with rfl | rfl | rfl
            · exact take_t _ s y wr HS.out HZy.out HEr.out
            · exact take_n _ s y wr HS.out HZy.out HEr.out
            · exact take_h _ s y wr HS.out HZy.out HEr.out)
          clear hy hcc hfc hch hLk
          go_wp2_with fail
          refine TK.out.mono ?_
          rintro e w5 ⟨b, s', rfl, hput, hs5, hc5⟩
          have HX5 : Hid (Blk w5 w.heap.size #[Value.int .i64 0, .int .i64 0, .int .i64 0, .int .i64 0, .int .i64 0] 52) := Lib.hid (HX.out.keep hc5 (by have := HLt.out; omega))
          have HB5 : Hid (Below w.heap.size w w5) := Lib.hid (Chg.onto HB.out hc5 (Nat.le_refl _) (fun q hq hqe => by have := HSz.out; omega))
          have HPut := Lib.hid hput
          have HS5 := Lib.hid hs5
          clear hput hs5 hc5 HX HB cy cw TK
          have d0 := HX5.out.cell (j := 0) rfl
          have d1 := HX5.out.cell (j := 1) rfl
          have d2 := HX5.out.cell (j := 2) rfl
          have d3 := HX5.out.cell (j := 3) rfl
          have d4 := HX5.out.cell (j := 4) rfl
          have f0 := HX5.out.free 0
          have f1 := HX5.out.free 1
          have f2 := HX5.out.free 2
          have f3 := HX5.out.free 3
          have f4 := HX5.out.free 4
          cases b with
          | false =>
            have HRR : Hid (parseR (x :: r) = (zeroS, 31)) := Lib.hid (by rw [HR.out, HG.out, HSt.out, HPut.out]; rfl)
            clear HSt HPut HG HS HS5
            go_wp2_with fail
            refine bodyPost_ret (results_ct rfl _ _ w.heap.size 52 #[Value.int .i64 0, .int .i64 0, .int .i64 0, .int .i64 0, .int .i64 0] (0, 0) _ rfl ((((((HX5.out).set 0 (.int .i64 0)).set 1 (.int .i64 0)).set 2 (.int .i64 0)).set 3 (.int .i64 0)).set 4 (.int .i64 0)) Tryd.underlying52 rfl (by kernel_rfl)) rfl ?_
            exact ⟨by rw [HRR.out]; rfl, (((((HB5.out).setCell (Nat.le_refl _) _).setCell (Nat.le_refl _) _).setCell (Nat.le_refl _) _).setCell (Nat.le_refl _) _).setCell (Nat.le_refl _) _⟩
          | true =>
            have HG5 : Hid (goP ⟨j, 0, 0, 0, 0⟩ (wantsF j) r = goP s' ((wantsF j).drop (k + 1)) (r.drop (k + 1))) := Lib.hid (by rw [HG.out, HSt.out, HPut.out]; rfl)
            clear HSt HPut HG HS d0 d1 d2 d3 d4 f0 f1 f2 f3 f4
            go_wp2_with fail
            go_roundw
            case rel => exact ⟨k + 1, s', by omega, by go_num, HG5.out, HS5.out, HX5.out, HB5.out⟩
            case measure => simp [intOf]; omega
      · obtain rfl : k = m := by omega
        have HRR : Hid (parseR (x :: r) = (s, 0)) := Lib.hid (by
          rw [HR.out, HG.out, List.drop_of_length_le (by rw [HO.out]; omega)]
          rfl)
        have d0 := HX.out.cell (j := 0) rfl
        have d1 := HX.out.cell (j := 1) rfl
        have d2 := HX.out.cell (j := 2) rfl
        have d3 := HX.out.cell (j := 3) rfl
        have d4 := HX.out.cell (j := 4) rfl
        have f0 := HX.out.free 0
        have f1 := HX.out.free 1
        have f2 := HX.out.free 2
        have f3 := HX.out.free 3
        have f4 := HX.out.free 4
        have s0 := HS.out.cell (j := 0) rfl
        have s1 := HS.out.cell (j := 1) rfl
        have s2 := HS.out.cell (j := 2) rfl
        have s3 := HS.out.cell (j := 3) rfl
        have s4 := HS.out.cell (j := 4) rfl
        go_wp2_with fail
        refine bodyPost_ret (results_ct rfl _ _ w.heap.size 52 (cellsS s) (0, 0) _ rfl ((((((HX.out).set 0 (.int .i64 s.say)).set 1 (.int .i64 s.i)).set 2 (.int .i64 s.g)).set 3 (.int .i64 s.t)).set 4 (.int .i64 s.n)) Tryd.underlying52 rfl (by kernel_rfl)) rfl ?_
        exact ⟨by rw [HRR.out]; rfl, (((((HB.out).setCell (Nat.le_refl _) _).setCell (Nat.le_refl _) _).setCell (Nat.le_refl _) _).setCell (Nat.le_refl _) _).setCell (Nat.le_refl _) _⟩
end Go.Proofs.YtddmlhcjbifkoaaDoor.Verb
