/- What words say, in plain words; the document's Parse answers so. No conditions. -/
import Derived.Test.YtddmlhcjbifkoaaDoorVerb1
import Derived.Test.YtddmlhcjbifkoaaDoorItem2
import Derived.Test.YtddmlhcjbifkoaaDoorVerbRefP
namespace Go.Proofs.YtddmlhcjbifkoaaDoor.Verb
open Go.Lib Go.RowKit Go.Proofs.YtddmlhcjbifkoaaDoorW.PrintWords Go.Proofs.YtddmlhcjbifkoaaDoor.PItemReads Go.Proofs.YtddmlhcjbifkoaaDoor.PVerbShows Go.Proofs.YtddmlhcjbifkoaaDoor.Item

def handR (o : Option (Int × Int)) : Int × Int × Bool := match o with | some (a, b) => (a, b, true) | none => (0, 0, false)
theorem handleOf_at {s : List UInt8} {i : Nat} (hi : i < s.length) (hn : (46 : UInt8) ∉ s.take i) (h : s[i] = 46) : handleOf s = (match num (s.take i), num (s.drop (i + 1)) with | some a, some b => if 0 ≤ a ∧ 0 ≤ b then some (a, b) else none | _, _ => none) := by
  have e0 : s = s.take i ++ 46 :: s.drop (i + 1) := by rw [← h, List.getElem_cons_drop, List.take_append_drop]
  rcases at_dot s with ⟨_, hx⟩ | ⟨j, h1, h2, h3, h4⟩
  · exact absurd (by rw [← h]; exact List.getElem_mem hi) hx
  · have := (split_dot hn h3 (e0.symm.trans h4)).1
    have l := congrArg List.length this
    rw [List.length_take, List.length_take] at l
    have e : i = j := by omega
    subst e
    unfold handleOf
    rw [h1, if_pos (by omega), Int.toNat_natCast]
    rfl
theorem handle_go (s : ByteArray) (hs : s.size ≤ 1000000) : ∀ (n i : Nat), i + n = s.size → (46 : UInt8) ∉ s.data.toList.take i → ∀ k, n + 101 ≤ k → whilomref21_handle.l0 k s (i : Int) = some (handR (handleOf s.data.toList)) := by
  intro n
  induction n with
  | zero =>
    intro i hi hn k hk
    obtain ⟨k, rfl⟩ : ∃ j, k = j + 1 := ⟨k - 1, by omega⟩
    rw [whilomref21_handle.l0, if_neg (by omega)]
    rw [List.take_of_length_le (by rw [sz]; omega)] at hn
    rcases at_dot s.data.toList with ⟨e, _⟩ | ⟨j, h1, h2, h3, h4⟩
    · unfold handleOf
      rw [e, if_neg (by decide)]
      rfl
    · exact absurd (by rw [h4]; simp) hn
  | succ n ih =>
    intro i hi hn k hk
    obtain ⟨k, rfl⟩ : ∃ j, k = j + 1 := ⟨k - 1, by omega⟩
    have hlt : i < s.data.toList.length := by rw [sz]; omega
    have hb := bt_is s i _ (List.getElem?_eq_getElem hlt)
    have hup : wrap64 ((i : Int) + 1) = ((i + 1 : Nat) : Int) := by unfold wrap64; omega
    rw [whilomref21_handle.l0, if_pos (by omega), if_pos (by omega), hb, hup]
    by_cases h : s.data.toList[i] = 46
    · rw [if_pos (by rw [h]; rfl), if_pos (by omega), Int.toNat_natCast, value_ev _ (by omega), Option.bind_some, if_pos (by omega), if_pos (by omega), Int.toNat_natCast, value_ev _ (by omega), Option.bind_some]
      rw [handleOf_at hlt hn h, ext_data, ext_data]
      simp only [List.drop_zero, Nat.sub_zero]
      rw [List.take_of_length_le (l := s.data.toList.drop (i + 1)) (by rw [List.length_drop, sz]; omega)]
      cases num (s.data.toList.take i) with
      | none => rfl
      | some a =>
        cases num (s.data.toList.drop (i + 1)) with
        | none => rfl
        | some b =>
          show (if a ≥ 0 then if b ≥ 0 then some (a, b, true) else some (0, 0, false) else some (0, 0, false)) = some (handR (if 0 ≤ a ∧ 0 ≤ b then some (a, b) else none))
          by_cases ha : 0 ≤ a
          · rw [if_pos ha]
            by_cases hb : 0 ≤ b
            · rw [if_pos hb, if_pos ⟨ha, hb⟩]; rfl
            · rw [if_neg hb, if_neg (fun e => hb e.2)]; rfl
          · rw [if_neg ha, if_neg (fun e => ha e.1)]; rfl
    · rw [if_neg (fun e => h (UInt8.toNat_inj.1 (by have e' : ((46 : UInt8).toNat : Int) = 46 := rfl; omega)))]
      refine ih (i + 1) (by omega) ?_ k (by omega)
      intro hm
      rw [List.take_succ_eq_append_getElem hlt, List.mem_append, List.mem_singleton] at hm
      rcases hm with hm | hm
      · exact hn hm
      · exact h hm.symm
theorem handle_ev (s : ByteArray) (hs : s.size ≤ 1000000) {k : Nat} (hk : s.size + 101 ≤ k) : whilomref21_handle.f k s = some (handR (handleOf s.data.toList)) := by
  unfold whilomref21_handle.f
  exact handle_go s hs s.size 0 (by omega) (by simp) k hk

/-! ### Commands -/
def names : List ByteArray := (whilomref21_table.f.getD ([], [])).1
def wantsU : List ByteArray := (whilomref21_table.f.getD ([], [])).2
theorem table_is : whilomref21_table.f = some (names, wantsU) := rfl
theorem names_len : names.length = 18 := rfl
theorem wants_len : wantsU.length = 18 := rfl
inductive Fld | T | N | H
deriving DecidableEq
def fldOf (c : UInt8) : Fld := if c = 84 then .T else if c = 78 then .N else .H
def wantsF (i : Nat) : List Fld := (wantsU.getD i ByteArray.empty).data.toList.map fldOf
def nameAt (i : Nat) : ByteArray := names.getD i ByteArray.empty
theorem chars : ∀ i, i < 18 → ∀ c ∈ (wantsU.getD i ByteArray.empty).data.toList, c = 84 ∨ c = 78 ∨ c = 72 := by decide +kernel
theorem fld_len (i : Nat) : (wantsF i).length = (wantsU.getD i ByteArray.empty).size := by unfold wantsF; rw [List.length_map, sz]
theorem few : ∀ i, i < 18 → (wantsF i).length ≤ 2 := by decide +kernel
/-- What is said. -/
structure SaidV where
  say : Int
  i : Int
  g : Int
  t : Int
  n : Int
deriving DecidableEq
def zeroS : SaidV := ⟨0, 0, 0, 0, 0⟩
def putF (s : SaidV) (f : Fld) (w : ByteArray) : Option SaidV := match f with
  | .T => (num w.data.toList).map fun n => { s with t := n }
  | .N => (num w.data.toList).map fun n => { s with n := n }
  | .H => (handleOf w.data.toList).map fun p => { s with i := p.1, g := p.2 }
def goP : SaidV → List Fld → List ByteArray → Option SaidV
  | s, [], _ => some s
  | s, f :: fs, w :: ws => (putF s f w).bind fun s' => goP s' fs ws
  | _, _ :: _, [] => none
def firstC (w : ByteArray) (n i : Nat) : Option Nat := (List.range' i (18 - i)).find? (fun j => decide (nameAt j = w) && decide ((wantsF j).length = n))
def outP (o : Option SaidV) : SaidV × Int := match o with | some s => (s, 0) | none => (zeroS, 31)
def parseC (o : Option Nat) (r : List ByteArray) : SaidV × Int := match o with | none => (zeroS, 31) | some j => outP (goP ⟨j, 0, 0, 0, 0⟩ (wantsF j) r)
def parseR (ws : List ByteArray) : SaidV × Int := match ws with | [] => (zeroS, 0) | w :: r => parseC (firstC w r.length 1) r
def flat (p : SaidV × Int) : Int × Int × Int × Int × Int × Int := (p.1.say, p.1.i, p.1.g, p.1.t, p.1.n, p.2)

theorem rd_nat (l : List ByteArray) (i : Nat) : rdOf ByteArray.empty l (i : Int) = l.getD i ByteArray.empty := by unfold rdOf; rw [Int.toNat_natCast]
theorem l1_ev (j : Nat) (hj : j < 18) (ws : List ByteArray) (hw : ∀ x ∈ ws, x.size ≤ 1000) (hl : ws.length = (wantsF j).length + 1) : ∀ (d p : Nat) (s : SaidV), p + d = (wantsF j).length → ∀ k, d + 1200 ≤ k →
    whilomref21_Parse.l1 k ws wantsU (j : Int) (p : Int) s.say s.i s.g s.t s.n = some (flat (outP (goP s ((wantsF j).drop p) (ws.drop (p + 1))))) := by
  intro d
  have h2 := few j hj
  induction d with
  | zero =>
    intro p s hp k hk
    obtain ⟨k, rfl⟩ : ∃ m, k = m + 1 := ⟨k - 1, by omega⟩
    have hz := fld_len j
    rw [whilomref21_Parse.l1, if_pos (by omega), if_pos (by rw [wants_len]; omega), rd_nat, if_neg (by omega), List.drop_of_length_le (by omega)]
    rfl
  | succ d ih =>
    intro p s hp k hk
    obtain ⟨k, rfl⟩ : ∃ m, k = m + 1 := ⟨k - 1, by omega⟩
    have hz := fld_len j
    have hup : wrap64 ((p : Int) + 1) = ((p + 1 : Nat) : Int) := by unfold wrap64; omega
    have hlt : p < (wantsU.getD j ByteArray.empty).data.toList.length := by rw [sz]; omega
    have hlw : p + 1 < ws.length := by omega
    have hb := bt_is _ p _ (List.getElem?_eq_getElem hlt)
    have hF : (wantsF j).drop p = fldOf ((wantsU.getD j ByteArray.empty).data.toList[p]) :: (wantsF j).drop (p + 1) := by
      rw [List.drop_eq_getElem_cons (by omega)]
      congr 1
      unfold wantsF
      rw [List.getElem_map]
    have hW : ws.drop (p + 1) = ws[p + 1] :: ws.drop (p + 1 + 1) := List.drop_eq_getElem_cons hlw
    have hg : ws.getD (p + 1) ByteArray.empty = ws[p + 1] := by rw [List.getD_eq_getElem?_getD, List.getElem?_eq_getElem hlw]; rfl
    have hs := hw _ (List.getElem_mem hlw)
    rw [whilomref21_Parse.l1, if_pos (by omega), if_pos (by rw [wants_len]; omega), rd_nat, if_pos (by omega), hup, if_pos (by omega), if_pos (by omega), rd_nat, hg, value_ev _ (by omega), Option.bind_some, if_pos (by omega), hb, hF, hW]
    generalize ws[p + 1] = x at hs ⊢
    have ih' := fun s => ih (p + 1) s (by omega) k (by omega)
    rcases chars j hj _ (List.getElem_mem hlt) with h | h | h
    · rw [h, if_pos (show ((84 : UInt8).toNat : Int) = 84 from rfl)]
      show _ = some (flat (outP ((putF s .T x).bind fun s' => goP s' _ _)))
      unfold putF
      cases num x.data.toList with
      | none => rfl
      | some v =>
        simp only [numR, if_true]
        exact ih' { s with t := v }
    · rw [h, if_neg (by decide), if_pos (show ((78 : UInt8).toNat : Int) = 78 from rfl)]
      show _ = some (flat (outP ((putF s .N x).bind fun s' => goP s' _ _)))
      unfold putF
      cases num x.data.toList with
      | none => rfl
      | some v =>
        simp only [numR, if_true]
        exact ih' { s with n := v }
    · rw [h, if_neg (by decide), if_neg (by decide), if_pos (show ((72 : UInt8).toNat : Int) = 72 from rfl), handle_ev _ (by omega) (by omega), Option.bind_some]
      show _ = some (flat (outP ((putF s .H x).bind fun s' => goP s' _ _)))
      unfold putF
      cases handleOf x.data.toList with
      | none => rfl
      | some q =>
        obtain ⟨a, b⟩ := q
        simp only [handR, if_true]
        exact ih' { s with i := a, g := b }
theorem firstC_step (w : ByteArray) (n i : Nat) (hi : i < 18) : firstC w n i = if nameAt i = w ∧ (wantsF i).length = n then some i else firstC w n (i + 1) := by
  unfold firstC
  obtain ⟨d, hd⟩ : ∃ d, 18 - i = d + 1 := ⟨17 - i, by omega⟩
  have h2 : 18 - (i + 1) = d := by omega
  rw [hd, h2, List.range'_succ, List.find?_cons]
  by_cases h1 : nameAt i = w
  · by_cases h3 : (wantsF i).length = n
    · rw [if_pos ⟨h1, h3⟩]; simp [h1, h3]
    · rw [if_neg (fun e => h3 e.2)]; simp [h3]
  · rw [if_neg (fun e => h1 e.1)]; simp [h1]
theorem l0_ev (w : ByteArray) (r : List ByteArray) (hw : ∀ x ∈ w :: r, x.size ≤ 1000) (hr : r.length ≤ 1000000) : ∀ (d i : Nat), i + d = 18 → ∀ k, 2 * d + 1300 ≤ k →
    whilomref21_Parse.l0 k (w :: r) names wantsU (i : Int) = some (flat (parseC (firstC w r.length i) r)) := by
  intro d
  induction d with
  | zero =>
    intro i hi k hk
    obtain ⟨k, rfl⟩ : ∃ m, k = m + 1 := ⟨k - 1, by omega⟩
    obtain rfl : i = 18 := by omega
    rw [whilomref21_Parse.l0, if_neg (by rw [names_len]; decide)]
    rfl
  | succ d ih =>
    intro i hi k hk
    obtain ⟨k, rfl⟩ : ∃ m, k = m + 1 + 1 := ⟨k - 2, by omega⟩
    have hup : wrap64 ((i : Int) + 1) = ((i + 1 : Nat) : Int) := by unfold wrap64; omega
    have hz := fld_len i
    have hlen : wrap64 (((w :: r).length : Int) - 1) = (r.length : Int) := by unfold wrap64; rw [List.length_cons]; omega
    have e0 : rdOf ByteArray.empty (w :: r) 0 = w := rfl
    rw [whilomref21_Parse.l0, if_pos (by rw [names_len]; omega), if_pos (by omega), if_pos (by rw [List.length_cons]; omega), rd_nat, rd_nat, e0, hlen, firstC_step _ _ _ (by omega)]
    have hn : names.getD i ByteArray.empty = nameAt i := rfl
    rw [hn]
    by_cases h1 : nameAt i = w
    · rw [if_pos (toList_inj.2 h1), if_pos (by rw [wants_len]; omega), whilomref21_Parse.j1]
      by_cases h3 : (wantsF i).length = r.length
      · rw [if_neg (by rw [← hz, h3]; simp), if_pos ⟨h1, h3⟩]
        exact l1_ev i (by omega) (w :: r) hw (by rw [List.length_cons]; omega) _ 0 ⟨i, 0, 0, 0, 0⟩ (Nat.zero_add _) k (by have := few i (by omega); omega)
      · rw [if_pos (by rw [← hz]; simp only [bne_iff_ne, ne_eq]; omega), if_neg (fun e => h3 e.2), hup]
        exact ih (i + 1) (by omega) k (by omega)
    · rw [if_neg (fun e => h1 (toList_inj.1 e)), whilomref21_Parse.j1, if_pos rfl, if_neg (fun e => h1 e.1), hup]
      exact ih (i + 1) (by omega) k (by omega)
theorem parse_ev (ws : List ByteArray) (hw : ∀ x ∈ ws, x.size ≤ 1000) (hr : ws.length ≤ 1000000) {k : Nat} (hk : 1400 ≤ k) : whilomref21_Parse.f k ws = some (flat (parseR ws)) := by
  unfold whilomref21_Parse.f
  cases ws with
  | nil => rfl
  | cons w r =>
    rw [if_neg (by rw [List.length_cons]; omega), table_is, Option.bind_some]
    exact l0_ev w r hw (by rw [List.length_cons] at hr; omega) 17 1 rfl k (by omega)
end Go.Proofs.YtddmlhcjbifkoaaDoor.Verb
