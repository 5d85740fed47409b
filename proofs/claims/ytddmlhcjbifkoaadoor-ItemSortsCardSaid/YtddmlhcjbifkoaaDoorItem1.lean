/- Numbers as texts, and texts as numbers: there and back. No program. No conditions. -/
import Derived.Lib.ItoaMem
import Derived.Lib.AtoiAllCases
import Derived.Lib.IndexMore
import Derived.Lib.IndexLaws
import Derived.KernelRfl
namespace Go.Proofs.YtddmlhcjbifkoaaDoor.Item
open Go.Lib

theorem nDigits_le : ∀ (k u : Nat), u < 10 ^ (k + 1) → nDigits u ≤ k + 1
  | 0, u, h => by rw [nDigits_small (by simpa using h)]; omega
  | k + 1, u, h => by
    by_cases h1 : u < 10
    · rw [nDigits_small h1]; omega
    · rw [nDigits_big h1]
      have := nDigits_le k (u / 10) (by rw [Nat.pow_succ] at h; omega)
      omega

theorem dec_small {u : Nat} (h : u < 10) : decDigits u = [UInt8.ofNat (48 + u)] := by rw [decDigits, dif_pos h]
theorem dec_big {u : Nat} (h : ¬ u < 10) : decDigits u = decDigits (u / 10) ++ [UInt8.ofNat (48 + u % 10)] := by rw [decDigits, dif_neg h]

theorem ofNat_toNat {n : Nat} (h : n < 256) : (UInt8.ofNat n).toNat = n := by
  rw [UInt8.toNat_ofNat']; omega

theorem dec_digits (u : Nat) : ∀ c ∈ decDigits u, 48 ≤ c.toNat ∧ c.toNat ≤ 57 := by
  induction u using Nat.strongRecOn with
  | _ u ih =>
    intro c hc
    by_cases h : u < 10
    · rw [dec_small h, List.mem_singleton] at hc
      subst hc
      rw [ofNat_toNat (by omega)]; omega
    · rw [dec_big h, List.mem_append, List.mem_singleton] at hc
      rcases hc with hc | rfl
      · exact ih (u / 10) (by omega) c hc
      · rw [ofNat_toNat (by omega)]; omega

theorem dec_ne (u : Nat) : decDigits u ≠ [] := by
  intro h
  have := decDigits_length u
  rw [h] at this
  have h2 := nDigits_pos u
  simp at this
  omega

theorem parse_dec (u : Nat) : ∀ (acc : Nat) (r : List UInt8), acc * 10 ^ nDigits u + u < 18446744073709551616 → parseUint10 acc (decDigits u ++ r) = parseUint10 (acc * 10 ^ nDigits u + u) r := by
  induction u using Nat.strongRecOn with
  | _ u ih =>
    intro acc r hb
    by_cases h : u < 10
    · rw [nDigits_small h] at hb ⊢
      rw [dec_small h]
      simp only [List.cons_append, List.nil_append, parseUint10]
      rw [ofNat_toNat (by omega), if_pos (by omega), if_neg (by omega), if_neg (by omega)]
      congr 1
      omega
    · rw [nDigits_big h, Nat.pow_succ, ← Nat.mul_assoc] at hb ⊢
      rw [dec_big h, List.append_assoc, ih (u / 10) (by omega) acc _ (by omega)]
      generalize acc * 10 ^ nDigits (u / 10) = A at hb ⊢
      simp only [List.cons_append, List.nil_append, parseUint10]
      rw [ofNat_toNat (by omega), if_pos (by omega), if_neg (by omega), if_neg (by omega)]
      congr 1
      omega

theorem mag_dec {u : Nat} (h : u < 18446744073709551616) : parseMag (decDigits u) = .ok u := by
  unfold parseMag
  rw [if_neg (dec_ne u)]
  have := parse_dec u 0 [] (by omega)
  rw [List.append_nil] at this
  rw [this]
  simp [parseUint10]

def In64 (n : Int) : Prop := -9223372036854775808 ≤ n ∧ n ≤ 9223372036854775807

theorem atoi_itoa {n : Int} (h : In64 n) : atoiAll (itoa n) = .ok n := by
  obtain ⟨h0, h1⟩ := h
  by_cases hneg : n < 0
  · obtain ⟨u, rfl⟩ : ∃ u : Nat, n = -(u : Int) := ⟨n.natAbs, by omega⟩
    rw [itoa_neg u (by omega), atoiAll_minus, mag_dec (by omega)]
    simp only [signed]
    rw [if_neg (by omega)]
  · obtain ⟨u, rfl⟩ : ∃ u : Nat, n = u := ⟨n.toNat, by omega⟩
    rw [itoa_nonneg]
    have hd := dec_digits u
    have hm := mag_dec (u := u) (by omega)
    cases hc : decDigits u with
    | nil => exact absurd hc (dec_ne u)
    | cons c r =>
      rw [hc] at hd hm
      have := hd c (by simp)
      rw [atoiAll_plain c r (by omega) (by omega), hm]
      simp only [signless]
      rw [if_neg (by omega)]

theorem itoa_inj {m n : Int} (hm : In64 m) (hn : In64 n) (h : itoa m = itoa n) : m = n := by
  have h1 := atoi_itoa hm
  rw [h, atoi_itoa hn] at h1
  injection h1 with h1
  exact h1.symm

theorem itoa_hash (n : Int) : (35 : UInt8) ∉ itoa n := by
  intro h
  unfold itoa at h
  split at h
  · rcases List.mem_cons.1 h with h | h
    · exact absurd h (by decide)
    · have := (dec_digits _ _ h).1
      exact absurd this (by decide)
  · have := (dec_digits _ _ h).1
    exact absurd this (by decide)

theorem itoa_len {n : Int} (h : In64 n) : (itoa n).length ≤ 20 := by
  obtain ⟨h0, h1⟩ := h
  by_cases hneg : n < 0
  · obtain ⟨u, rfl⟩ : ∃ u : Nat, n = -(u : Int) := ⟨n.natAbs, by omega⟩
    rw [itoa_neg u (by omega), List.length_cons, decDigits_length]
    have := nDigits_le 18 u (by omega)
    omega
  · obtain ⟨u, rfl⟩ : ∃ u : Nat, n = u := ⟨n.toNat, by omega⟩
    rw [itoa_nonneg, decDigits_length]
    have := nDigits_le 18 u (by omega)
    omega

theorem split_hash : ∀ {a a' b b' : List UInt8}, (35 : UInt8) ∉ a → (35 : UInt8) ∉ a' → a ++ 35 :: b = a' ++ 35 :: b' → a = a' ∧ b = b'
  | [], [], b, b', _, _, h => ⟨rfl, by simpa using h⟩
  | [], c :: t, b, b', _, h', h => by
    simp only [List.nil_append, List.cons_append, List.cons.injEq] at h
    exact absurd (by rw [← h.1]; exact List.mem_cons_self) h'
  | c :: t, [], b, b', h1, _, h => by
    simp only [List.nil_append, List.cons_append, List.cons.injEq] at h
    exact absurd (by rw [h.1]; exact List.mem_cons_self) h1
  | c :: t, d :: t', b, b', h1, h', h => by
    simp only [List.cons_append, List.cons.injEq] at h
    have := split_hash (fun x => h1 (List.mem_cons_of_mem _ x)) (fun x => h' (List.mem_cons_of_mem _ x)) h.2
    exact ⟨by rw [h.1, this.1], this.2⟩

/-- An item's text. -/
def textOf (k i : Int) : List UInt8 := itoa k ++ 35 :: itoa i

theorem textOf_inj {k i k' i' : Int} (hk : In64 k) (hi : In64 i) (hk' : In64 k') (hi' : In64 i') (h : textOf k i = textOf k' i') : k = k' ∧ i = i' := by
  have := split_hash (itoa_hash _) (itoa_hash _) h
  exact ⟨itoa_inj hk hk' this.1, itoa_inj hi hi' this.2⟩

/-- Whose number is a text just? -/
def num (a : List UInt8) : Option Int := match atoiAll a with
  | .ok v => if itoa v = a then some v else none
  | _ => none

theorem num_itoa {n : Int} (h : In64 n) : num (itoa n) = some n := by unfold num; rw [atoi_itoa h]; simp
theorem num_some {a : List UInt8} {v : Int} (h : num a = some v) : a = itoa v ∧ In64 v ∧ atoiAll a = .ok v := by
  unfold num at h
  split at h
  · rename_i v' hv
    split at h
    · rename_i e
      injection h with h
      subst h
      exact ⟨e.symm, atoiAll_bounds hv, hv⟩
    · cases h
  · cases h

/-- Which item's text is it? -/
def readOf (s : List UInt8) : Option (Int × Int) :=
  if 0 ≤ index s [35] then
    (match num (s.take (index s [35]).toNat), num (s.drop ((index s [35]).toNat + 1)) with
    | some a, some b => some (a, b)
    | _, _ => none)
  else none

/-- Where the sign stands first. -/
theorem at_hash (s : List UInt8) : (index s [35] = -1 ∧ (35 : UInt8) ∉ s) ∨ ∃ i : Nat, index s [35] = i ∧ i < s.length ∧ (35 : UInt8) ∉ s.take i ∧ s = s.take i ++ 35 :: s.drop (i + 1) := by
  rw [index_one]
  rcases Int.lt_or_le (indexByte s 35) 0 with h | h
  · left
    have hge := indexByte_ge s 35
    have e : indexByte s 35 = -1 := by omega
    refine ⟨e, fun hm => ?_⟩
    obtain ⟨k, hk⟩ := List.getElem?_of_mem hm
    exact indexByte_none e k hk
  · right
    obtain ⟨i, hi⟩ : ∃ i : Nat, indexByte s 35 = i := ⟨(indexByte s 35).toNat, by omega⟩
    obtain ⟨h1, h2⟩ := indexByte_some hi
    have hlt : i < s.length := by
      rcases Nat.lt_or_ge i s.length with h | h
      · exact h
      · rw [List.getElem?_eq_none h] at h1; cases h1
    refine ⟨i, hi, hlt, fun hm => ?_, ?_⟩
    · obtain ⟨k, hk⟩ := List.getElem?_of_mem hm
      rw [List.getElem?_take] at hk
      split at hk
      · exact h2 k (by assumption) hk
      · cases hk
    · have : s[i] = 35 := by rw [List.getElem?_eq_getElem hlt] at h1; injection h1
      rw [← this, List.getElem_cons_drop, List.take_append_drop]

theorem readOf_text {k i : Int} (hk : In64 k) (hi : In64 i) : readOf (textOf k i) = some (k, i) := by
  have hh : (35 : UInt8) ∈ textOf k i := by unfold textOf; simp
  rcases at_hash (textOf k i) with ⟨_, h⟩ | ⟨j, h1, h2, h3, h4⟩
  · exact absurd hh h
  · have := split_hash (itoa_hash k) h3 (show itoa k ++ 35 :: itoa i = _ from h4)
    unfold readOf
    rw [h1, if_pos (by omega), Int.toNat_natCast, ← this.1, ← this.2, num_itoa hk, num_itoa hi]

theorem readOf_some {s : List UInt8} {k i : Int} (h : readOf s = some (k, i)) : s = textOf k i ∧ In64 k ∧ In64 i := by
  unfold readOf at h
  rcases at_hash s with ⟨e, _⟩ | ⟨j, h1, h2, h3, h4⟩
  · rw [e, if_neg (by decide)] at h; cases h
  · rw [h1, if_pos (by omega), Int.toNat_natCast] at h
    split at h
    · rename_i a b ha hb
      injection h with h
      injection h with e1 e2
      subst e1; subst e2
      obtain ⟨ea, ra, _⟩ := num_some ha
      obtain ⟨eb, rb, _⟩ := num_some hb
      refine ⟨?_, ra, rb⟩
      unfold textOf
      rw [← ea, ← eb]
      exact h4
    · cases h

/-- Reading by the program's way: both halves read as numbers, and the text anew is the text. -/
theorem read_ok {s a b : List UInt8} {v u : Int} (hc : cut s [35] = (a, b, true) ∨ ∃ x, cut s [35] = (a, b, x)) (ha : atoiAll a = .ok v) (hb : atoiAll b = .ok u) : readOf s = if textOf v u = s then some (v, u) else none := by
  obtain ⟨x, hc⟩ : ∃ x, cut s [35] = (a, b, x) := by rcases hc with h | h; exact ⟨_, h⟩; exact h
  split
  · rename_i e
    rw [← e]
    exact readOf_text (atoiAll_bounds ha) (atoiAll_bounds hb)
  · rename_i e
    cases hr : readOf s with
    | none => rfl
    | some p =>
      obtain ⟨k, i⟩ := p
      obtain ⟨e1, hk, hi⟩ := readOf_some hr
      exfalso
      unfold cut at hc
      rcases at_hash s with ⟨e', hn⟩ | ⟨j, h1, h2, h3, h4⟩
      · apply hn; rw [e1]; unfold textOf; simp
      · rw [h1, if_pos (by omega), Int.toNat_natCast] at hc
        simp only [Prod.mk.injEq, List.length_singleton] at hc
        have h5 := split_hash (itoa_hash k) h3 (show itoa k ++ 35 :: itoa i = _ from e1.symm.trans h4)
        rw [← hc.1, ← h5.1, atoi_itoa hk] at ha
        rw [← hc.2.1, ← h5.2, atoi_itoa hi] at hb
        injection ha with ha
        injection hb with hb
        subst ha; subst hb
        exact e e1.symm

theorem read_bad {s a b : List UInt8} {x : Bool} (hc : cut s [35] = (a, b, x)) (h : (∀ v, atoiAll a ≠ .ok v) ∨ (∀ v, atoiAll b ≠ .ok v)) : readOf s = none := by
  cases hr : readOf s with
  | none => rfl
  | some p =>
    obtain ⟨k, i⟩ := p
    obtain ⟨e1, hk, hi⟩ := readOf_some hr
    exfalso
    unfold cut at hc
    rcases at_hash s with ⟨e', hn⟩ | ⟨j, h1, h2, h3, h4⟩
    · apply hn; rw [e1]; unfold textOf; simp
    · rw [h1, if_pos (by omega), Int.toNat_natCast] at hc
      simp only [Prod.mk.injEq, List.length_singleton] at hc
      have h5 := split_hash (itoa_hash k) h3 (show itoa k ++ 35 :: itoa i = _ from e1.symm.trans h4)
      rcases h with h | h
      · exact h k (by rw [← hc.1, ← h5.1, atoi_itoa hk])
      · exact h i (by rw [← hc.2.1, ← h5.2, atoi_itoa hi])
end Go.Proofs.YtddmlhcjbifkoaaDoor.Item
