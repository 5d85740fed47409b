/- Handles' texts, commands, what words say: there and back. No program. No conditions. -/
import Derived.Test.YtddmlhcjbifkoaaDoorItem1
namespace Go.Proofs.YtddmlhcjbifkoaaDoor.Verb
open Go.Lib Go.Proofs.YtddmlhcjbifkoaaDoor.Item

theorem itoa_dot (n : Int) : (46 : UInt8) ∉ itoa n := by
  intro h
  unfold itoa at h
  split at h
  · rcases List.mem_cons.1 h with h | h
    · exact absurd h (by decide)
    · have := (dec_digits _ _ h).1
      exact absurd this (by decide)
  · have := (dec_digits _ _ h).1
    exact absurd this (by decide)

theorem split_dot : ∀ {a a' b b' : List UInt8}, (46 : UInt8) ∉ a → (46 : UInt8) ∉ a' → a ++ 46 :: b = a' ++ 46 :: b' → a = a' ∧ b = b'
  | [], [], b, b', _, _, h => ⟨rfl, by simpa using h⟩
  | [], c :: t, b, b', _, h', h => by
    simp only [List.nil_append, List.cons_append, List.cons.injEq] at h
    exact absurd (by rw [← h.1]; exact List.mem_cons_self) h'
  | c :: t, [], b, b', h1, _, h => by
    simp only [List.nil_append, List.cons_append, List.cons.injEq] at h
    exact absurd (by rw [h.1]; exact List.mem_cons_self) h1
  | c :: t, d :: t', b, b', h1, h', h => by
    simp only [List.cons_append, List.cons.injEq] at h
    have := split_dot (fun x => h1 (List.mem_cons_of_mem _ x)) (fun x => h' (List.mem_cons_of_mem _ x)) h.2
    exact ⟨by rw [h.1, this.1], this.2⟩

/-- A handle's text. -/
def hText (i g : Int) : List UInt8 := itoa i ++ 46 :: itoa g

theorem at_dot (s : List UInt8) : (index s [46] = -1 ∧ (46 : UInt8) ∉ s) ∨ ∃ i : Nat, index s [46] = i ∧ i < s.length ∧ (46 : UInt8) ∉ s.take i ∧ s = s.take i ++ 46 :: s.drop (i + 1) := by
  rw [index_one]
  rcases Int.lt_or_le (indexByte s 46) 0 with h | h
  · left
    have hge := indexByte_ge s 46
    have e : indexByte s 46 = -1 := by omega
    refine ⟨e, fun hm => ?_⟩
    obtain ⟨k, hk⟩ := List.getElem?_of_mem hm
    exact indexByte_none e k hk
  · right
    obtain ⟨i, hi⟩ : ∃ i : Nat, indexByte s 46 = i := ⟨(indexByte s 46).toNat, by omega⟩
    obtain ⟨h1, h2⟩ := indexByte_some hi
    have hlt : i < s.length := by
      rcases Nat.lt_or_ge i s.length with h | h
      · exact h
      · rw [List.getElem?_eq_none h] at h1; cases h1
    refine ⟨i, hi, hlt, fun hm => ?_, ?_⟩
    · obtain ⟨k, hk⟩ := List.getElem?_of_mem hm
      rw [List.getElem?_take] at hk
      split at hk
      · exact h2 k (by assumption) hk
      · cases hk
    · have : s[i] = 46 := by rw [List.getElem?_eq_getElem hlt] at h1; injection h1
      rw [← this, List.getElem_cons_drop, List.take_append_drop]

/-- Whose handle is a text? -/
def handleOf (s : List UInt8) : Option (Int × Int) :=
  if 0 ≤ index s [46] then
    (match num (s.take (index s [46]).toNat), num (s.drop ((index s [46]).toNat + 1)) with
    | some a, some b => if 0 ≤ a ∧ 0 ≤ b then some (a, b) else none
    | _, _ => none)
  else none

theorem handleOf_text {k i : Int} (hk : In64 k) (hi : In64 i) (h0 : 0 ≤ k) (h1 : 0 ≤ i) : handleOf (hText k i) = some (k, i) := by
  have hh : (46 : UInt8) ∈ hText k i := by unfold hText; simp
  rcases at_dot (hText k i) with ⟨_, h⟩ | ⟨j, h1, h2, h3, h4⟩
  · exact absurd hh h
  · have := split_dot (itoa_dot k) h3 (show itoa k ++ 46 :: itoa i = _ from h4)
    unfold handleOf
    rw [h1, if_pos (by omega), Int.toNat_natCast, ← this.1, ← this.2, num_itoa hk, num_itoa hi]
    simp only
    rw [if_pos ⟨by omega, by omega⟩]

theorem handleOf_some {s : List UInt8} {k i : Int} (h : handleOf s = some (k, i)) : s = hText k i ∧ In64 k ∧ In64 i ∧ 0 ≤ k ∧ 0 ≤ i := by
  unfold handleOf at h
  rcases at_dot s with ⟨e, _⟩ | ⟨j, h1, h2, h3, h4⟩
  · rw [e, if_neg (by decide)] at h; cases h
  · rw [h1, if_pos (by omega), Int.toNat_natCast] at h
    split at h
    · rename_i a b ha hb
      split at h
      · rename_i hp
        injection h with h
        injection h with e1 e2
        subst e1; subst e2
        obtain ⟨ea, ra, _⟩ := num_some ha
        obtain ⟨eb, rb, _⟩ := num_some hb
        refine ⟨?_, ra, rb, hp⟩
        unfold hText
        rw [← ea, ← eb]
        exact h4
      · cases h
    · cases h

/-- The text that is told of a handle. -/
def handleTxt (i g : Int) : List UInt8 := if i < 0 ∨ g < 0 then [] else hText i g

/-- By the program's way: what both halves read as, told again, is the text. -/
theorem handle_is {s a b : List UInt8} {x : Bool} (hc : cut s [46] = (a, b, x)) :
    handleOf s = (match num a, num b with | some i, some g => if handleTxt i g = s then some (i, g) else none | _, _ => none) := by
  cases hr : handleOf s with
  | some p =>
    obtain ⟨k, i⟩ := p
    obtain ⟨e1, hk, hi, h0, h1⟩ := handleOf_some hr
    unfold cut at hc
    rcases at_dot s with ⟨e', hn⟩ | ⟨j, h1', h2, h3, h4⟩
    · exact absurd (by rw [e1]; unfold hText; simp) hn
    · rw [h1', if_pos (by omega), Int.toNat_natCast] at hc
      simp only [Prod.mk.injEq, List.length_singleton] at hc
      have h5 := split_dot (itoa_dot k) h3 (show itoa k ++ 46 :: itoa i = _ from e1.symm.trans h4)
      rw [← hc.1, ← hc.2.1, ← h5.1, ← h5.2, num_itoa hk, num_itoa hi]
      simp only
      rw [if_pos]
      unfold handleTxt
      rw [if_neg (by omega)]; exact e1.symm
  | none =>
    cases ha : num a with
    | none => rfl
    | some i =>
      cases hb : num b with
      | none => rfl
      | some g =>
        simp only
        rw [if_neg]
        intro e
        unfold handleTxt at e
        obtain ⟨_, ri, _⟩ := num_some ha
        obtain ⟨_, rg, _⟩ := num_some hb
        split at e
        · -- the empty text: its halves are empty, which are no numbers
          rename_i hneg
          subst e
          have : cut ([] : List UInt8) [46] = ([], [], false) := by decide
          rw [this] at hc
          injection hc with ea _
          subst ea
          rw [show num ([] : List UInt8) = none by decide] at ha
          cases ha
        · rename_i hpos
          rw [← e, handleOf_text ri rg (by omega) (by omega)] at hr
          cases hr
end Go.Proofs.YtddmlhcjbifkoaaDoor.Verb
