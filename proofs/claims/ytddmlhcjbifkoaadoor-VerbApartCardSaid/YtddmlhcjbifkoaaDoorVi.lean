/- Items and commands, part Vi of this seat's texts: plain facts and walks. No conditions. -/
import Derived.Lib.ItoaMem
import Derived.Lib.AtoiAllCases
import Derived.Lib.IndexMore
import Derived.Lib.IndexLaws
import Derived.KernelRfl
import Derived.Test.YtddmlhcjbifkoaaDoorPItemReadsx4
import Derived.IntWalk
import Derived.Test.YtddmlhcjbifkoaaDoorPItemReadsx0
import Derived.Test.YtddmlhcjbifkoaaDoorShelfI
import Derived.Test.YtddmlhcjbifkoaaDoorMem
import Derived.Lib.AppendIntMem
import Derived.Lib.Hide
/- Numbers as texts, and texts as numbers: there and back. No program. No conditions. -/
namespace Go.Proofs.YtddmlhcjbifkoaaDoor.Item
open Go.Lib

theorem nDigits_le : ∀ (k u : Nat), u < 10 ^ (k + 1) → nDigits u ≤ k + 1
  | 0, u, h => by rw [nDigits_small (by simpa using h)]; omega
  | k + 1, u, h => by
    by_cases h1 : u < 10
    · rw [nDigits_small h1]; omega
    · rw [nDigits_big h1]
      have := nDigits_le k (u / 10) (by rw [Nat.pow_succ] at h; omega)
      omega

theorem dec_small {u : Nat} (h : u < 10) : decDigits u = [UInt8.ofNat (48 + u)] := by rw [decDigits, dif_pos h]
theorem dec_big {u : Nat} (h : ¬ u < 10) : decDigits u = decDigits (u / 10) ++ [UInt8.ofNat (48 + u % 10)] := by rw [decDigits, dif_neg h]

theorem ofNat_toNat {n : Nat} (h : n < 256) : (UInt8.ofNat n).toNat = n := by
  rw [UInt8.toNat_ofNat']; omega

theorem dec_digits (u : Nat) : ∀ c ∈ decDigits u, 48 ≤ c.toNat ∧ c.toNat ≤ 57 := by
  induction u using Nat.strongRecOn with
  | _ u ih =>
    intro c hc
    by_cases h : u < 10
    · rw [dec_small h, List.mem_singleton] at hc
      subst hc
      rw [ofNat_toNat (by omega)]; omega
    · rw [dec_big h, List.mem_append, List.mem_singleton] at hc
      rcases hc with hc | rfl
      · exact ih (u / 10) (by omega) c hc
      · rw [ofNat_toNat (by omega)]; omega

theorem dec_ne (u : Nat) : decDigits u ≠ [] := by
  intro h
  have := decDigits_length u
  rw [h] at this
  have h2 := nDigits_pos u
  simp at this
  omega

theorem parse_dec (u : Nat) : ∀ (acc : Nat) (r : List UInt8), acc * 10 ^ nDigits u + u < 18446744073709551616 → parseUint10 acc (decDigits u ++ r) = parseUint10 (acc * 10 ^ nDigits u + u) r := by
  induction u using Nat.strongRecOn with
  | _ u ih =>
    intro acc r hb
    by_cases h : u < 10
    · rw [nDigits_small h] at hb ⊢
      rw [dec_small h]
      simp only [List.cons_append, List.nil_append, parseUint10]
      rw [ofNat_toNat (by omega), if_pos (by omega), if_neg (by omega), if_neg (by omega)]
      congr 1
      omega
    · rw [nDigits_big h, Nat.pow_succ, ← Nat.mul_assoc] at hb ⊢
      rw [dec_big h, List.append_assoc, ih (u / 10) (by omega) acc _ (by omega)]
      generalize acc * 10 ^ nDigits (u / 10) = A at hb ⊢
      simp only [List.cons_append, List.nil_append, parseUint10]
      rw [ofNat_toNat (by omega), if_pos (by omega), if_neg (by omega), if_neg (by omega)]
      congr 1
      omega

theorem mag_dec {u : Nat} (h : u < 18446744073709551616) : parseMag (decDigits u) = .ok u := by
  unfold parseMag
  rw [if_neg (dec_ne u)]
  have := parse_dec u 0 [] (by omega)
  rw [List.append_nil] at this
  rw [this]
  simp [parseUint10]

def In64 (n : Int) : Prop := -9223372036854775808 ≤ n ∧ n ≤ 9223372036854775807

theorem atoi_itoa {n : Int} (h : In64 n) : atoiAll (itoa n) = .ok n := by
  obtain ⟨h0, h1⟩ := h
  by_cases hneg : n < 0
  · obtain ⟨u, rfl⟩ : ∃ u : Nat, n = -(u : Int) := ⟨n.natAbs, by omega⟩
    rw [itoa_neg u (by omega), atoiAll_minus, mag_dec (by omega)]
    simp only [signed]
    rw [if_neg (by omega)]
  · obtain ⟨u, rfl⟩ : ∃ u : Nat, n = u := ⟨n.toNat, by omega⟩
    rw [itoa_nonneg]
    have hd := dec_digits u
    have hm := mag_dec (u := u) (by omega)
    cases hc : decDigits u with
    | nil => exact absurd hc (dec_ne u)
    | cons c r =>
      rw [hc] at hd hm
      have := hd c (by simp)
      rw [atoiAll_plain c r (by omega) (by omega), hm]
      simp only [signless]
      rw [if_neg (by omega)]

theorem itoa_inj {m n : Int} (hm : In64 m) (hn : In64 n) (h : itoa m = itoa n) : m = n := by
  have h1 := atoi_itoa hm
  rw [h, atoi_itoa hn] at h1
  injection h1 with h1
  exact h1.symm

theorem itoa_hash (n : Int) : (35 : UInt8) ∉ itoa n := by
  intro h
  unfold itoa at h
  split at h
  · rcases List.mem_cons.1 h with h | h
    · exact absurd h (by decide)
    · have := (dec_digits _ _ h).1
      exact absurd this (by decide)
  · have := (dec_digits _ _ h).1
    exact absurd this (by decide)

theorem itoa_len {n : Int} (h : In64 n) : (itoa n).length ≤ 20 := by
  obtain ⟨h0, h1⟩ := h
  by_cases hneg : n < 0
  · obtain ⟨u, rfl⟩ : ∃ u : Nat, n = -(u : Int) := ⟨n.natAbs, by omega⟩
    rw [itoa_neg u (by omega), List.length_cons, decDigits_length]
    have := nDigits_le 18 u (by omega)
    omega
  · obtain ⟨u, rfl⟩ : ∃ u : Nat, n = u := ⟨n.toNat, by omega⟩
    rw [itoa_nonneg, decDigits_length]
    have := nDigits_le 18 u (by omega)
    omega

theorem split_hash : ∀ {a a' b b' : List UInt8}, (35 : UInt8) ∉ a → (35 : UInt8) ∉ a' → a ++ 35 :: b = a' ++ 35 :: b' → a = a' ∧ b = b'
  | [], [], b, b', _, _, h => ⟨rfl, by simpa using h⟩
  | [], c :: t, b, b', _, h', h => by
    simp only [List.nil_append, List.cons_append, List.cons.injEq] at h
    exact absurd (by rw [← h.1]; exact List.mem_cons_self) h'
  | c :: t, [], b, b', h1, _, h => by
    simp only [List.nil_append, List.cons_append, List.cons.injEq] at h
    exact absurd (by rw [h.1]; exact List.mem_cons_self) h1
  | c :: t, d :: t', b, b', h1, h', h => by
    simp only [List.cons_append, List.cons.injEq] at h
    have := split_hash (fun x => h1 (List.mem_cons_of_mem _ x)) (fun x => h' (List.mem_cons_of_mem _ x)) h.2
    exact ⟨by rw [h.1, this.1], this.2⟩

/-- An item's text. -/
def textOf (k i : Int) : List UInt8 := itoa k ++ 35 :: itoa i

theorem textOf_inj {k i k' i' : Int} (hk : In64 k) (hi : In64 i) (hk' : In64 k') (hi' : In64 i') (h : textOf k i = textOf k' i') : k = k' ∧ i = i' := by
  have := split_hash (itoa_hash _) (itoa_hash _) h
  exact ⟨itoa_inj hk hk' this.1, itoa_inj hi hi' this.2⟩

/-- Whose number is a text just? -/
def num (a : List UInt8) : Option Int := match atoiAll a with
  | .ok v => if itoa v = a then some v else none
  | _ => none

theorem num_itoa {n : Int} (h : In64 n) : num (itoa n) = some n := by unfold num; rw [atoi_itoa h]; simp
theorem num_some {a : List UInt8} {v : Int} (h : num a = some v) : a = itoa v ∧ In64 v ∧ atoiAll a = .ok v := by
  unfold num at h
  split at h
  · rename_i v' hv
    split at h
    · rename_i e
      injection h with h
      subst h
      exact ⟨e.symm, atoiAll_bounds hv, hv⟩
    · cases h
  · cases h

/-- Which item's text is it? -/
def readOf (s : List UInt8) : Option (Int × Int) :=
  if 0 ≤ index s [35] then
    (match num (s.take (index s [35]).toNat), num (s.drop ((index s [35]).toNat + 1)) with
    | some a, some b => some (a, b)
    | _, _ => none)
  else none

/-- Where the sign stands first. -/
theorem at_hash (s : List UInt8) : (index s [35] = -1 ∧ (35 : UInt8) ∉ s) ∨ ∃ i : Nat, index s [35] = i ∧ i < s.length ∧ (35 : UInt8) ∉ s.take i ∧ s = s.take i ++ 35 :: s.drop (i + 1) := by
  rw [index_one]
  rcases Int.lt_or_le (indexByte s 35) 0 with h | h
  · left
    have hge := indexByte_ge s 35
    have e : indexByte s 35 = -1 := by omega
    refine ⟨e, fun hm => ?_⟩
    obtain ⟨k, hk⟩ := List.getElem?_of_mem hm
    exact indexByte_none e k hk
  · right
    obtain ⟨i, hi⟩ : ∃ i : Nat, indexByte s 35 = i := ⟨(indexByte s 35).toNat, by omega⟩
    obtain ⟨h1, h2⟩ := indexByte_some hi
    have hlt : i < s.length := by
      rcases Nat.lt_or_ge i s.length with h | h
      · exact h
      · rw [List.getElem?_eq_none h] at h1; cases h1
    refine ⟨i, hi, hlt, fun hm => ?_, ?_⟩
    · obtain ⟨k, hk⟩ := List.getElem?_of_mem hm
      rw [List.getElem?_take] at hk
      split at hk
      · exact h2 k (by assumption) hk
      · cases hk
    · have : s[i] = 35 := by rw [List.getElem?_eq_getElem hlt] at h1; injection h1
      rw [← this, List.getElem_cons_drop, List.take_append_drop]

theorem readOf_text {k i : Int} (hk : In64 k) (hi : In64 i) : readOf (textOf k i) = some (k, i) := by
  have hh : (35 : UInt8) ∈ textOf k i := by unfold textOf; simp
  rcases at_hash (textOf k i) with ⟨_, h⟩ | ⟨j, h1, h2, h3, h4⟩
  · exact absurd hh h
  · have := split_hash (itoa_hash k) h3 (show itoa k ++ 35 :: itoa i = _ from h4)
    unfold readOf
    rw [h1, if_pos (by omega), Int.toNat_natCast, ← this.1, ← this.2, num_itoa hk, num_itoa hi]

theorem readOf_some {s : List UInt8} {k i : Int} (h : readOf s = some (k, i)) : s = textOf k i ∧ In64 k ∧ In64 i := by
  unfold readOf at h
  rcases at_hash s with ⟨e, _⟩ | ⟨j, h1, h2, h3, h4⟩
  · rw [e, if_neg (by decide)] at h; cases h
  · rw [h1, if_pos (by omega), Int.toNat_natCast] at h
    split at h
    · rename_i a b ha hb
      injection h with h
      injection h with e1 e2
      subst e1; subst e2
      obtain ⟨ea, ra, _⟩ := num_some ha
      obtain ⟨eb, rb, _⟩ := num_some hb
      refine ⟨?_, ra, rb⟩
      unfold textOf
      rw [← ea, ← eb]
      exact h4
    · cases h

/-- Reading by the program's way: both halves read as numbers, and the text anew is the text. -/
theorem read_ok {s a b : List UInt8} {v u : Int} (hc : cut s [35] = (a, b, true) ∨ ∃ x, cut s [35] = (a, b, x)) (ha : atoiAll a = .ok v) (hb : atoiAll b = .ok u) : readOf s = if textOf v u = s then some (v, u) else none := by
  obtain ⟨x, hc⟩ : ∃ x, cut s [35] = (a, b, x) := by rcases hc with h | h; exact ⟨_, h⟩; exact h
  split
  · rename_i e
    rw [← e]
    exact readOf_text (atoiAll_bounds ha) (atoiAll_bounds hb)
  · rename_i e
    cases hr : readOf s with
    | none => rfl
    | some p =>
      obtain ⟨k, i⟩ := p
      obtain ⟨e1, hk, hi⟩ := readOf_some hr
      exfalso
      unfold cut at hc
      rcases at_hash s with ⟨e', hn⟩ | ⟨j, h1, h2, h3, h4⟩
      · apply hn; rw [e1]; unfold textOf; simp
      · rw [h1, if_pos (by omega), Int.toNat_natCast] at hc
        simp only [Prod.mk.injEq, List.length_singleton] at hc
        have h5 := split_hash (itoa_hash k) h3 (show itoa k ++ 35 :: itoa i = _ from e1.symm.trans h4)
        rw [← hc.1, ← h5.1, atoi_itoa hk] at ha
        rw [← hc.2.1, ← h5.2, atoi_itoa hi] at hb
        injection ha with ha
        injection hb with hb
        subst ha; subst hb
        exact e e1.symm

theorem read_bad {s a b : List UInt8} {x : Bool} (hc : cut s [35] = (a, b, x)) (h : (∀ v, atoiAll a ≠ .ok v) ∨ (∀ v, atoiAll b ≠ .ok v)) : readOf s = none := by
  cases hr : readOf s with
  | none => rfl
  | some p =>
    obtain ⟨k, i⟩ := p
    obtain ⟨e1, hk, hi⟩ := readOf_some hr
    exfalso
    unfold cut at hc
    rcases at_hash s with ⟨e', hn⟩ | ⟨j, h1, h2, h3, h4⟩
    · apply hn; rw [e1]; unfold textOf; simp
    · rw [h1, if_pos (by omega), Int.toNat_natCast] at hc
      simp only [Prod.mk.injEq, List.length_singleton] at hc
      have h5 := split_hash (itoa_hash k) h3 (show itoa k ++ 35 :: itoa i = _ from e1.symm.trans h4)
      rcases h with h | h
      · exact h k (by rw [← hc.1, ← h5.1, atoi_itoa hk])
      · exact h i (by rw [← hc.2.1, ← h5.2, atoi_itoa hi])
end Go.Proofs.YtddmlhcjbifkoaaDoor.Item
/- The document's words on items' texts answer as the numbers' laws say. No conditions. -/
namespace Go.Proofs.YtddmlhcjbifkoaaDoor.Item
open Go.Lib Go.RowKit Go.Proofs.YtddmlhcjbifkoaaDoorW.PrintWords Go.Proofs.YtddmlhcjbifkoaaDoor.PItemReads

def mk (l : List UInt8) : ByteArray := ⟨l.toArray⟩
theorem mk_size (l : List UInt8) : (mk l).size = l.length := by simp [mk, ByteArray.size]
theorem mk_toList (l : List UInt8) : (mk l).data.toList = l := by simp [mk]
theorem mk_data (s : ByteArray) : mk s.data.toList = s := by simp [mk]
theorem mk_inj {a b : List UInt8} : mk a = mk b ↔ a = b := ⟨fun h => by rw [← mk_toList a, h, mk_toList], fun h => by rw [h]⟩
theorem mk_append (a b : List UInt8) : mk a ++ mk b = mk (a ++ b) := by
  apply ByteArray.ext
  apply Array.ext'
  simp [mk, ByteArray.data_append]
theorem toList_inj {a b : ByteArray} : a.toList = b.toList ↔ a = b := by
  rw [ByteArray.toList_eq, ByteArray.toList_eq]
  exact ⟨fun h => by rw [← mk_data a, h, mk_data], fun h => by rw [h]⟩
theorem bt_is (s : ByteArray) (i : Nat) (c : UInt8) (h : s.data.toList[i]? = some c) : bt s (i : Int) = (c.toNat : Int) := by
  have hi : i < s.size := by have := (List.getElem?_eq_some_iff.1 h).1; simpa using this
  unfold bt
  rw [Int.toNat_natCast, dif_pos hi]
  have : s[i] = c := by
    have h2 := (List.getElem?_eq_some_iff.1 h).2
    rw [← h2]; simp; rfl
  rw [this]
theorem wrap64_in (n : Int) (h : -9223372036854775808 ≤ n ∧ n ≤ 9223372036854775807) : wrap64 n = n := by unfold wrap64; omega
theorem itoa_zero : itoa 0 = [48] := by
  rw [show (0 : Int) = ((0 : Nat) : Int) from rfl, itoa_nonneg, dec_small (by omega)]; rfl
theorem sz (s : ByteArray) : s.data.toList.length = s.size := by simp

theorem digit {d : Nat} (h : d < 10) : strOfNums [(wrap64 (48 + (d : Int))) % 256] = mk [UInt8.ofNat (48 + d)] := by
  rw [wrap64_in _ (by omega)]
  have e : (48 + (d : Int)) % 256 = ((48 + d : Nat) : Int) := by omega
  rw [e]
  rcases (by omega : d = 0 ∨ d = 1 ∨ d = 2 ∨ d = 3 ∨ d = 4 ∨ d = 5 ∨ d = 6 ∨ d = 7 ∨ d = 8 ∨ d = 9) with rfl | rfl | rfl | rfl | rfl | rfl | rfl | rfl | rfl | rfl <;> rfl

theorem tdiv_nat (u : Nat) : Int.tdiv (u : Int) 10 = ((u / 10 : Nat) : Int) := rfl
theorem tmod_nat (u : Nat) : Int.tmod (u : Int) 10 = ((u % 10 : Nat) : Int) := rfl
theorem tdiv_neg (u : Nat) : Int.tdiv (-(u : Int)) 10 = -((u / 10 : Nat) : Int) := by rw [Int.neg_tdiv]; rfl
theorem tmod_neg (u : Nat) : Int.tmod (-(u : Int)) 10 = -((u % 10 : Nat) : Int) := by rw [Int.neg_tmod]; rfl

theorem number_pos (x0 : Int) (hx : ¬ x0 < 0) (u : Nat) : ∀ (acc : List UInt8) (k : Nat), 0 < u → u < 9223372036854775808 → acc.length + nDigits u ≤ 1000 → nDigits u + 1 ≤ k →
    whilomref02_Number.l0 k x0 (mk acc) (u : Int) = some (mk (decDigits u ++ acc)) := by
  induction u using Nat.strongRecOn with
  | _ u ih =>
    intro acc k h0 hu hl hk
    obtain ⟨k, rfl⟩ : ∃ j, k = j + 1 := ⟨k - 1, by omega⟩
    rw [whilomref02_Number.l0, if_neg (by omega), tmod_nat, if_neg (by omega), tdiv_nat, wrap64_in (((u / 10 : Nat)) : Int) (by omega)]
    simp only [Option.bind_some]
    rw [digit (Nat.mod_lt u (by omega)), mk_append, if_pos (by rw [mk_size, mk_size]; simp; omega)]
    by_cases h : u < 10
    · have e : u / 10 = 0 := by omega
      have := nDigits_pos u
      obtain ⟨k, rfl⟩ : ∃ j, k = j + 1 := ⟨k - 1, by omega⟩
      rw [e, whilomref02_Number.l0, if_pos (by omega), if_neg hx, dec_small h, Nat.mod_eq_of_lt h]
    · rw [nDigits_big h] at hl hk
      rw [ih (u / 10) (by omega) _ k (by omega) (by omega) (by simp; omega) (by omega), dec_big h, List.append_assoc]

theorem number_neg (x0 : Int) (hx : x0 < 0) (u : Nat) : ∀ (acc : List UInt8) (k : Nat), 0 < u → u ≤ 9223372036854775808 → acc.length + nDigits u ≤ 1000 → nDigits u + 1 ≤ k →
    whilomref02_Number.l0 k x0 (mk acc) (-(u : Int)) = some (mk (45 :: (decDigits u ++ acc))) := by
  induction u using Nat.strongRecOn with
  | _ u ih =>
    intro acc k h0 hu hl hk
    obtain ⟨k, rfl⟩ : ∃ j, k = j + 1 := ⟨k - 1, by omega⟩
    have body : (if (strOfNums [(wrap64 (48 + ((u % 10 : Nat) : Int))) % 256]).size + (mk acc).size ≤ 9223372036854775807 then whilomref02_Number.l0 k x0 (strOfNums [(wrap64 (48 + ((u % 10 : Nat) : Int))) % 256] ++ mk acc) (wrap64 (-((u / 10 : Nat) : Int))) else none) = some (mk (45 :: (decDigits u ++ acc))) := by
      rw [digit (Nat.mod_lt u (by omega)), mk_append, if_pos (by rw [mk_size, mk_size]; simp; omega), wrap64_in (-((u / 10 : Nat) : Int)) (by omega)]
      by_cases h : u < 10
      · have e : u / 10 = 0 := by omega
        have := nDigits_pos u
        obtain ⟨k, rfl⟩ : ∃ j, k = j + 1 := ⟨k - 1, by omega⟩
        rw [e, whilomref02_Number.l0, if_pos (by omega), if_pos hx, if_pos (by rw [mk_size]; simp; omega), show (⟨#[45]⟩ : ByteArray) = mk [45] from rfl, mk_append, dec_small h, Nat.mod_eq_of_lt h]
        rfl
      · rw [nDigits_big h] at hl hk
        rw [ih (u / 10) (by omega) _ k (by omega) (by omega) (by simp; omega) (by omega), dec_big h, List.append_assoc]
    rw [whilomref02_Number.l0, if_neg (by omega), tmod_neg, tdiv_neg]
    simp only [Option.bind_some]
    split
    · rw [Int.neg_neg, wrap64_in ((u % 10 : Nat) : Int) (by omega)]
      exact body
    · have e : u % 10 = 0 := by omega
      rw [e] at body ⊢
      exact body

theorem number_ev {n : Int} (h : In64 n) {k : Nat} (hk : 30 ≤ k) : whilomref02_Number.f k n = some (mk (itoa n)) := by
  obtain ⟨h0, h1⟩ := h
  unfold whilomref02_Number.f
  by_cases hz : n = 0
  · subst hz; rw [if_pos rfl, itoa_zero]; rfl
  · rw [if_neg hz, show (⟨#[]⟩ : ByteArray) = mk [] from rfl]
    by_cases hneg : n < 0
    · obtain ⟨u, rfl⟩ : ∃ u : Nat, n = -(u : Int) := ⟨n.natAbs, by omega⟩
      have := nDigits_le 18 u (by omega)
      rw [number_neg _ hneg u [] k (by omega) (by omega) (by simp; omega) (by omega), itoa_neg u (by omega), List.append_nil]
    · obtain ⟨u, rfl⟩ : ∃ u : Nat, n = u := ⟨n.toNat, by omega⟩
      have := nDigits_le 18 u (by omega)
      rw [number_pos _ hneg u [] k (by omega) (by omega) (by simp; omega) (by omega), itoa_nonneg, List.append_nil]

/-! ### Value -/
def stepN (neg : Bool) (acc : Int) (c : UInt8) : Int :=
  wrap64 (wrap64 (acc * 10) + (if neg = true then wrap64 (-(wrap64 (wrap64 (c.toNat : Int) - 48))) else wrap64 (wrap64 (c.toNat : Int) - 48)))
theorem wrap_in (n : Int) : In64 (wrap64 n) := by unfold wrap64 In64; omega
theorem fold_in (neg : Bool) : ∀ (l : List UInt8) (acc : Int), In64 acc → In64 (l.foldl (stepN neg) acc)
  | [], _, h => h
  | _ :: l, _, _ => fold_in neg l _ (wrap_in _)
theorem step_pos {a : Int} {d : Nat} (h0 : 0 ≤ a) (hd : d < 10) (h1 : a * 10 + d ≤ 9223372036854775807) : stepN false a (UInt8.ofNat (48 + d)) = a * 10 + d := by
  unfold stepN
  rw [ofNat_toNat (by omega), if_neg (by decide)]
  have e1 : wrap64 ((48 + d : Nat) : Int) = 48 + d := by rw [wrap64_in _ (by omega)]; omega
  have e2 : wrap64 ((48 : Int) + d - 48) = d := by rw [wrap64_in _ (by omega)]; omega
  have e3 : wrap64 (a * 10) = a * 10 := wrap64_in _ (by omega)
  rw [e1, e2, e3]
  exact wrap64_in _ (by omega)
theorem step_neg {a : Int} {d : Nat} (h0 : a ≤ 0) (hd : d < 10) (h1 : -9223372036854775808 ≤ a * 10 - d) : stepN true a (UInt8.ofNat (48 + d)) = a * 10 - d := by
  unfold stepN
  rw [ofNat_toNat (by omega), if_pos rfl]
  have e1 : wrap64 ((48 + d : Nat) : Int) = 48 + d := by rw [wrap64_in _ (by omega)]; omega
  have e2 : wrap64 ((48 : Int) + d - 48) = d := by rw [wrap64_in _ (by omega)]; omega
  have e3 : wrap64 (a * 10) = a * 10 := wrap64_in _ (by omega)
  have e4 : wrap64 (-(d : Int)) = -(d : Int) := wrap64_in _ (by omega)
  rw [e1, e2, e3, e4]
  have e5 := wrap64_in (a * 10 + -(d : Int)) (by omega)
  rw [e5]; omega
theorem fold_pos (u : Nat) : u < 9223372036854775808 → (decDigits u).foldl (stepN false) 0 = (u : Int) := by
  induction u using Nat.strongRecOn with
  | _ u ih =>
    intro hu
    by_cases h : u < 10
    · rw [dec_small h, List.foldl_cons, List.foldl_nil, step_pos (by omega) h (by omega)]; omega
    · rw [dec_big h, List.foldl_append, ih (u / 10) (by omega) (by omega), List.foldl_cons, List.foldl_nil, step_pos (by omega) (by omega) (by omega)]; omega
theorem fold_neg (u : Nat) : u ≤ 9223372036854775808 → (decDigits u).foldl (stepN true) 0 = -(u : Int) := by
  induction u using Nat.strongRecOn with
  | _ u ih =>
    intro hu
    by_cases h : u < 10
    · rw [dec_small h, List.foldl_cons, List.foldl_nil, step_neg (by omega) h (by omega)]; omega
    · rw [dec_big h, List.foldl_append, ih (u / 10) (by omega) (by omega), List.foldl_cons, List.foldl_nil, step_neg (by omega) (by omega) (by omega)]; omega

theorem value_go (s : ByteArray) (hs : s.size ≤ 20) (neg : Bool) (hneg : bt s 0 = 45 ↔ neg = true) : ∀ (n i : Nat) (acc : Int), i + n = s.size → (0 < i ∨ neg = false) → In64 acc → ∀ k, 2 * n + 31 ≤ k →
    whilomref02_Value.l0 k s acc (i : Int) = if mk (itoa ((s.data.toList.drop i).foldl (stepN neg) acc)) = s then some ((s.data.toList.drop i).foldl (stepN neg) acc, true) else some (0, false) := by
  intro n
  induction n with
  | zero =>
    intro i acc hi _ ha k hk
    obtain ⟨k, rfl⟩ : ∃ j, k = j + 1 := ⟨k - 1, by omega⟩
    rw [whilomref02_Value.l0, if_neg (by omega), number_ev ha (by omega), List.drop_eq_nil_of_le (by rw [sz]; omega)]
    rw [Option.bind_some, List.foldl_nil]
    by_cases h : mk (itoa acc) = s
    · rw [if_pos (toList_inj.2 h), if_pos h]
    · rw [if_neg (fun e => h (toList_inj.1 e)), if_neg h]
  | succ n ih =>
    intro i acc hi hpos ha k hk
    obtain ⟨k, rfl⟩ : ∃ j, k = j + 2 := ⟨k - 2, by omega⟩
    have hlt : i < s.data.toList.length := by rw [sz]; omega
    have hb := bt_is s i _ (List.getElem?_eq_getElem hlt)
    have hup : wrap64 ((i : Int) + 1) = ((i + 1 : Nat) : Int) := by unfold wrap64; omega
    have next := ih (i + 1) (stepN neg acc (s.data.toList[i])) (by omega) (by omega) (wrap_in _) k (by omega)
    rw [List.drop_eq_getElem_cons hlt, List.foldl_cons, ← next]
    have hj : whilomref02_Value.j1 (k + 1) s acc (i : Int) true = whilomref02_Value.l0 k s (stepN neg acc (s.data.toList[i])) ((i + 1 : Nat) : Int) := by
      rw [whilomref02_Value.j1, if_pos rfl, if_pos (by omega), if_pos (by omega), if_pos (by omega), hb, hup]
      cases neg with
      | true => rw [if_pos (hneg.2 rfl)]; simp only [stepN, if_true]
      | false => rw [if_neg (fun e => by have := hneg.1 e; cases this)]; simp only [stepN, Bool.false_eq_true, if_false]
    rw [whilomref02_Value.l0, if_pos (by omega)]
    by_cases h0 : 0 < i
    · rw [if_pos (by omega), hj]
    · rw [if_neg (by omega), if_pos (by omega)]
      have e : (bt s 0 != 45) = true := by
        rcases hpos with h | h
        · exact absurd h h0
        · subst h
          rw [bne_iff_ne]
          intro e
          have := hneg.1 e
          cases this
      rw [e, hj]

theorem bt_empty (s : ByteArray) (h : s.size = 0) : bt s 0 = 0 := by
  unfold bt
  rw [dif_neg (by simp [h])]

def numR (o : Option Int) : Int × Bool := match o with | some v => (v, true) | none => (0, false)

theorem value_ev (s : ByteArray) {k : Nat} (hk : 100 ≤ k) : whilomref02_Value.f k s = some (numR (num s.data.toList)) := by
  unfold whilomref02_Value.f
  by_cases hbig : 20 < s.size
  · rw [if_pos (by omega)]
    cases hn : num s.data.toList with
    | none => rfl
    | some v =>
      obtain ⟨e, hv, _⟩ := num_some hn
      have := itoa_len hv
      rw [← e, sz] at this
      omega
  · rw [if_neg (by omega)]
    have key : ∃ v : Int, In64 v ∧ whilomref02_Value.l0 k s 0 0 = (if mk (itoa v) = s then some (v, true) else some (0, false)) ∧ ∀ n : Int, In64 n → s.data.toList = itoa n → v = n := by
      by_cases hm : bt s 0 = 45
      · have hpos : 0 < s.size := by
          rcases Nat.eq_zero_or_pos s.size with h | h
          · rw [bt_empty s h] at hm; cases hm
          · exact h
        obtain ⟨j, rfl⟩ : ∃ j, k = j + 2 := ⟨k - 2, by omega⟩
        refine ⟨_, fold_in true (s.data.toList.drop 1) 0 (by unfold In64; omega), ?_, ?_⟩
        · have g := value_go s (by omega) true (by simp [hm]) (s.size - 1) 1 0 (by omega) (by omega) (by unfold In64; omega) j (by omega)
          rw [whilomref02_Value.l0, if_pos (by omega), if_neg (by omega), if_pos (by omega), hm, show ((45 : Int) != 45) = false from rfl, whilomref02_Value.j1, if_neg (by decide), show wrap64 (0 + 1) = ((1 : Nat) : Int) from (by unfold wrap64; omega)]
          exact g
        · intro n hn e
          obtain ⟨h0, h1⟩ := hn
          by_cases hneg : n < 0
          · obtain ⟨u, rfl⟩ : ∃ u : Nat, n = -(u : Int) := ⟨n.natAbs, by omega⟩
            rw [e, itoa_neg u (by omega), List.drop_succ_cons, List.drop_zero]
            exact fold_neg u (by omega)
          · obtain ⟨u, rfl⟩ : ∃ u : Nat, n = u := ⟨n.toNat, by omega⟩
            exfalso
            rw [itoa_nonneg] at e
            cases hc : decDigits u with
            | nil => exact dec_ne u hc
            | cons c r =>
              rw [hc] at e
              have hb := bt_is s 0 c (by rw [e]; rfl)
              have := dec_digits u c (by rw [hc]; simp)
              have hm' : bt s ((0 : Nat) : Int) = 45 := hm
              omega
      · refine ⟨_, fold_in false (s.data.toList.drop 0) 0 (by unfold In64; omega), value_go s (by omega) false (by simp [hm]) s.size 0 0 (by omega) (Or.inr rfl) (by unfold In64; omega) k (by omega), ?_⟩
        intro n hn e
        obtain ⟨h0, h1⟩ := hn
        rw [List.drop_zero, e]
        by_cases hneg : n < 0
        · obtain ⟨u, rfl⟩ : ∃ u : Nat, n = -(u : Int) := ⟨n.natAbs, by omega⟩
          exfalso
          rw [itoa_neg u (by omega)] at e
          have hb := bt_is s 0 45 (by rw [e]; rfl)
          exact hm hb
        · obtain ⟨u, rfl⟩ : ∃ u : Nat, n = u := ⟨n.toNat, by omega⟩
          rw [itoa_nonneg]
          exact fold_pos u (by omega)
    obtain ⟨v, hv, e, hu⟩ := key
    rw [e]
    split
    · rename_i h
      rw [← h, mk_toList, num_itoa hv]
      rfl
    · rename_i h
      cases hn : num s.data.toList with
      | none => rfl
      | some n =>
        obtain ⟨e2, hn2, _⟩ := num_some hn
        have := hu n hn2 e2
        subst this
        exact absurd (by rw [← e2, mk_data]) h

/-! ### Read -/
def readR (o : Option (Int × Int)) : Int × Int × Bool := match o with | some (a, b) => (a, b, true) | none => (0, 0, false)

theorem ext_data (s : ByteArray) (a b : Nat) : (s.extract a b).data.toList = (s.data.toList.drop a).take (b - a) := by simp

theorem readOf_at {s : List UInt8} {i : Nat} (hi : i < s.length) (hn : (35 : UInt8) ∉ s.take i) (h : s[i] = 35) : readOf s = (match num (s.take i), num (s.drop (i + 1)) with | some a, some b => some (a, b) | _, _ => none) := by
  have e0 : s = s.take i ++ 35 :: s.drop (i + 1) := by rw [← h, List.getElem_cons_drop, List.take_append_drop]
  rcases at_hash s with ⟨_, hx⟩ | ⟨j, h1, h2, h3, h4⟩
  · exact absurd (by rw [← h]; exact List.getElem_mem hi) hx
  · have := (split_hash hn h3 (e0.symm.trans h4)).1
    have l := congrArg List.length this
    rw [List.length_take, List.length_take] at l
    have e : i = j := by omega
    subst e
    unfold readOf
    rw [h1, if_pos (by omega), Int.toNat_natCast]
    try rfl

theorem read_go (s : ByteArray) (hs : s.size ≤ 1000000) : ∀ (n i : Nat), i + n = s.size → (35 : UInt8) ∉ s.data.toList.take i → ∀ k, n + 101 ≤ k → whilomref02_Read.l0 k s (i : Int) = some (readR (readOf s.data.toList)) := by
  intro n
  induction n with
  | zero =>
    intro i hi hn k hk
    obtain ⟨k, rfl⟩ : ∃ j, k = j + 1 := ⟨k - 1, by omega⟩
    rw [whilomref02_Read.l0, if_neg (by omega)]
    rw [List.take_of_length_le (by rw [sz]; omega)] at hn
    rcases at_hash s.data.toList with ⟨e, _⟩ | ⟨j, h1, h2, h3, h4⟩
    · unfold readOf
      rw [e, if_neg (by decide)]
      rfl
    · exact absurd (by rw [h4]; simp) hn
  | succ n ih =>
    intro i hi hn k hk
    obtain ⟨k, rfl⟩ : ∃ j, k = j + 1 := ⟨k - 1, by omega⟩
    have hlt : i < s.data.toList.length := by rw [sz]; omega
    have hb := bt_is s i _ (List.getElem?_eq_getElem hlt)
    have hup : wrap64 ((i : Int) + 1) = ((i + 1 : Nat) : Int) := by unfold wrap64; omega
    rw [whilomref02_Read.l0, if_pos (by omega), if_pos (by omega), hb, hup]
    by_cases h : s.data.toList[i] = 35
    · rw [if_pos (by rw [h]; rfl), if_pos (by omega), Int.toNat_natCast, value_ev _ (by omega), Option.bind_some, if_pos (by omega), if_pos (by omega), Int.toNat_natCast, value_ev _ (by omega), Option.bind_some]
      rw [readOf_at hlt hn h, ext_data, ext_data]
      simp only [List.drop_zero, Nat.sub_zero]
      rw [List.take_of_length_le (l := s.data.toList.drop (i + 1)) (by rw [List.length_drop, sz]; omega)]
      cases num (s.data.toList.take i) with
      | none => rfl
      | some a =>
        cases num (s.data.toList.drop (i + 1)) with
        | none => rfl
        | some b => rfl
    · rw [if_neg (fun e => h (UInt8.toNat_inj.1 (by have e' : ((35 : UInt8).toNat : Int) = 35 := rfl; omega)))]
      refine ih (i + 1) (by omega) ?_ k (by omega)
      intro hm
      rw [List.take_succ_eq_append_getElem hlt, List.mem_append, List.mem_singleton] at hm
      rcases hm with hm | hm
      · exact hn hm
      · exact h hm.symm

theorem read_ev (s : ByteArray) (hs : s.size ≤ 1000000) {k : Nat} (hk : s.size + 101 ≤ k) : whilomref02_Read.f k s = some (readR (readOf s.data.toList)) := by
  unfold whilomref02_Read.f
  exact read_go s hs s.size 0 (by omega) (by simp) k hk
end Go.Proofs.YtddmlhcjbifkoaaDoor.Item
/- The order of items: the first part of what print.sh printed for ItemReads (the rest of that text does not build here). -/
namespace Go.Proofs.YtddmlhcjbifkoaaDoor.ItemCmp
open Go.RowKit Go.Proofs.YtddmlhcjbifkoaaDoorW.PrintWords Go.Proofs.YtddmlhcjbifkoaaDoorW.PrintLast Go.Proofs.YtddmlhcjbifkoaaDoorW.PrintMore
attribute [local go_sem] max2_int min2_int max_two min_two max_three min_three max_four min_four   -- for this text's walks alone
set_option linter.unusedVariables false
set_option linter.unusedSimpArgs false

/-! ### cmp_Or_int: function 51 -/
def cmp_Or_int.l0 : Nat → Int → List Int → Int → Int → Option (Int)
  | 0, _, _, _, _ => none
  | k + 1, x3, x6, x7, x8 => if x8 < x7 then (if 0 ≤ x8 then (if x8 < (x6.length : Int) then (if (rd x6 x8) = x3 then (cmp_Or_int.l0 k x3 x6 x7 (wrap64 (x8 + 1))) else (some (rd x6 x8))) else (none)) else (none)) else (some x3)
def cmp_Or_int.f (k : Nat) (l0 : List Int) : Option (Int) := cmp_Or_int.l0 k 0 l0 (l0.length : Int) 0
theorem cmp_Or_int.mono_l : ∀ k, (∀ y0 y1 y2 y3, LeO (cmp_Or_int.l0 k y0 y1 y2 y3) (cmp_Or_int.l0 (k + 1) y0 y1 y2 y3))
  | 0 => fun _ _ _ _ r h => by simp [cmp_Or_int.l0] at h
  | k + 1 => by
    have ih0 := cmp_Or_int.mono_l k
    · intro y0 y1 y2 y3
      unfold cmp_Or_int.l0
      repeat' first
      | (with_reducible exact ih0 _ _ _ _)
      | (with_reducible exact LeO.refl _)
      | (with_reducible exact LeO.none _)
      | (with_reducible refine LeO.ite ?_ ?_)
      | (with_reducible refine LeO.bind ?_ (fun _ => ?_))
      | exact ih0 _ _ _ _
      | exact LeO.none _
      | refine LeO.ite ?_ ?_
      | refine LeO.bind ?_ (fun _ => ?_)
theorem cmp_Or_int.mono : ∀ a0 k, LeO (cmp_Or_int.f k a0) (cmp_Or_int.f (k + 1) a0) := by
  intro a0 k
  have ih0 := cmp_Or_int.mono_l k
  unfold cmp_Or_int.f
  repeat' first
      | (with_reducible exact ih0 _ _ _ _)
      | (with_reducible exact LeO.refl _)
      | (with_reducible exact LeO.none _)
      | (with_reducible refine LeO.ite ?_ ?_)
      | (with_reducible refine LeO.bind ?_ (fun _ => ?_))
      | exact ih0 _ _ _ _
      | exact LeO.none _
      | refine LeO.ite ?_ ?_
      | refine LeO.bind ?_ (fun _ => ?_)
set_option maxHeartbeats 8000000 in
set_option maxRecDepth 100000 in
theorem cmp_Or_int.calls (k : Nat) (A0 : Option Addr) (c0 : Nat) (l0 : List Int) (r : Int) (w : World) (hr0 : Kd.C (Kd.int .i64) w A0 l0.length l0) (hc0 : l0.length ≤ c0) (h : cmp_Or_int.f k l0 = some r) :
    Calls Tryd.prog 51 #[.slice A0 l0.length c0] w fun e w' => e = .returned (.int .i64 r) ∧ Drawn0 w w' := by
  have HR0 := Aside0.mk hr0
  have HC0 := Aside0.mk hc0
  clear hr0 hc0
  have H : (cmp_Or_int.l0 k 0 l0 (l0.length : Int) 0) = some r := h
  clear h
  have H' := Aside0.mk H
  clear H
  go_enter Tryd.func51, Tryd.ntmps51
  go_wp2
  go_loopg [8] k (fun kq v8 w' => ∃ (x8_1 : Int), v8 = .int .i64 x8_1 ∧ Aside0 (cmp_Or_int.l0 kq 0 l0 (l0.length : Int) x8_1 = some r) ∧ Aside0 (kq ≤ k) ∧ Drawn0 w w')
  case atStart => exact ⟨(0), (by first | rfl | (simp; done) | (simp [*]; done)), H', ⟨Nat.le_refl _⟩, by repeat (first | exact Drawn0.refl _ | apply Drawn0.step)⟩
  case round =>
    clear H'
    obtain ⟨x8_1, rfl, HA, HK1, ⟨m1, rfl⟩⟩ := hrel
    cases gk with
    | zero => exact absurd HA.out (by simp [cmp_Or_int.l0])
    | succ k1 =>
      have H := HA.out
      clear HA
      simp only [cmp_Or_int.l0] at H
      by_cases c2 : x8_1 < (l0.length : Int)
      · rw [if_pos c2] at H
        have c2b0 : decide (x8_1 < (l0.length : Int)) = true := decide_eq_true c2
        clear c2
        by_cases c3 : 0 ≤ x8_1
        · rw [if_pos c3] at H
          have c3b0 : decide (0 ≤ x8_1) = true := decide_eq_true c3
          clear c3
          by_cases c4 : x8_1 < (l0.length : Int)
          · rw [if_pos c4] at H
            have c4b0 : decide (x8_1 < (l0.length : Int)) = true := decide_eq_true c4
            clear c4
            by_cases c5 : (rd l0 x8_1) = 0
            · rw [if_pos c5] at H
              have c5b0 : ((rd l0 x8_1) == 0) = true := beq_iff_eq.mpr c5
              have c5b1 : ((rd l0 x8_1) != 0) = false := bne_eq_false_iff_eq.mpr c5
              clear c5
              have H' := Aside0.mk H
              clear H
              have p101 : 0 ≤ (x8_1 : Int) := of_decide_eq_true (by first | (with_reducible assumption) | assumption)
              have q101 : x8_1 < (l0.length : Int) := of_decide_eq_true (by first | (with_reducible assumption) | assumption)
              obtain ⟨ad101, e101, hx101_0⟩ := Kd.at_int HR0.out x8_1 p101 q101
              cases e101
              replace p101 := eq_true p101
              replace q101 := eq_true q101
              go_wp2
              go_roundg k1
              case measure => have := HK1.out; omega
              case rel => exact ⟨(wrap64 (x8_1 + 1)), (by first | rfl | (simp; done) | (simp [*]; done)), H', ⟨by have := HK1.out; omega⟩, by repeat (first | exact Drawn0.refl _ | apply Drawn0.step)⟩
            · rw [if_neg c5] at H
              have c5b0 : ((rd l0 x8_1) == 0) = false := beq_eq_false_iff_ne.mpr c5
              have c5b1 : ((rd l0 x8_1) != 0) = true := bne_iff_ne.mpr c5
              obtain rfl := Option.some.inj H
              have p101 : 0 ≤ (x8_1 : Int) := of_decide_eq_true (by first | (with_reducible assumption) | assumption)
              have q101 : x8_1 < (l0.length : Int) := of_decide_eq_true (by first | (with_reducible assumption) | assumption)
              obtain ⟨ad101, e101, hx101_0⟩ := Kd.at_int HR0.out x8_1 p101 q101
              cases e101
              replace p101 := eq_true p101
              replace q101 := eq_true q101
              go_wp2
              go_ret
              exact ⟨by first | rfl | (simp; done) | (simp [*]; done), by repeat (first | exact Drawn0.refl _ | apply Drawn0.step)⟩
          · rw [if_neg c4] at H
            exact absurd H (by simp)
        · rw [if_neg c3] at H
          exact absurd H (by simp)
      · rw [if_neg c2] at H
        have c2b0 : decide (x8_1 < (l0.length : Int)) = false := decide_eq_false c2
        clear c2
        obtain rfl := Option.some.inj H
        go_wp2
        go_ret
        exact ⟨by first | rfl | (simp; done) | (simp [*]; done), by repeat (first | exact Drawn0.refl _ | apply Drawn0.step)⟩

/-! ### cmp_isNaN_int: function 74 -/
def cmp_isNaN_int.f (a0 : Int) : Option (Bool) := some (a0 != a0)
set_option maxHeartbeats 8000000 in
set_option maxRecDepth 100000 in
theorem cmp_isNaN_int.calls (a0 : Int) (r : Bool) (w : World) (h : cmp_isNaN_int.f a0 = some r) :
    Calls Tryd.prog 74 #[.int .i64 a0] w fun e w' => e = .returned (.bool r) ∧ Drawn0 w w' := by
  have H : (some (a0 != a0)) = some r := h
  clear h
  obtain rfl := Option.some.inj H
  go_enter Tryd.func74, Tryd.ntmps74
  go_wp2
  go_ret
  exact ⟨by first | rfl | (simp; done) | (simp [*]; done), by repeat (first | exact Drawn0.refl _ | apply Drawn0.step)⟩

/-! ### cmp_Compare_int: function 52 -/
def cmp_Compare_int.f (a0 : Int) (a1 : Int) : Option (Int) := (cmp_isNaN_int.f a0).bind fun t102 => ((cmp_isNaN_int.f a1).bind fun t103 => (if t102 = true then (if t103 = true then (some 0) else (some (-1))) else (if t103 = true then (some 1) else (if a0 < a1 then (some (-1)) else (if a0 > a1 then (some 1) else (some 0))))))
set_option maxHeartbeats 8000000 in
set_option maxRecDepth 100000 in
theorem cmp_Compare_int.calls (a0 : Int) (a1 : Int) (r : Int) (w : World) (h : cmp_Compare_int.f a0 a1 = some r) :
    Calls Tryd.prog 52 #[.int .i64 a0, .int .i64 a1] w fun e w' => e = .returned (.int .i64 r) ∧ Drawn0 w w' := by
  have H : ((cmp_isNaN_int.f a0).bind fun t102 => ((cmp_isNaN_int.f a1).bind fun t103 => (if t102 = true then (if t103 = true then (some 0) else (some (-1))) else (if t103 = true then (some 1) else (if a0 < a1 then (some (-1)) else (if a0 > a1 then (some 1) else (some 0))))))) = some r := h
  clear h
  replace H := Option.bind_eq_some_iff.mp H
  obtain ⟨t102, A30, H⟩ := H
  replace H : ((cmp_isNaN_int.f a1).bind fun t103 => (if t102 = true then (if t103 = true then (some 0) else (some (-1))) else (if t103 = true then (some 1) else (if a0 < a1 then (some (-1)) else (if a0 > a1 then (some 1) else (some 0)))))) = some r := H
  have A3 := Aside0.mk A30
  clear A30
  replace H := Option.bind_eq_some_iff.mp H
  obtain ⟨t103, A40, H⟩ := H
  replace H : (if t102 = true then (if t103 = true then (some 0) else (some (-1))) else (if t103 = true then (some 1) else (if a0 < a1 then (some (-1)) else (if a0 > a1 then (some 1) else (some 0))))) = some r := H
  have A4 := Aside0.mk A40
  clear A40
  by_cases c5 : t102 = true
  · subst c5
    have H1 : (if t103 = true then (some 0) else (some (-1))) = some r := by rw [if_pos rfl] at H; exact H
    clear H
    have H := H1
    clear H1
    by_cases c6 : t103 = true
    · subst c6
      have H1 : (some 0) = some r := by rw [if_pos rfl] at H; exact H
      clear H
      have H := H1
      clear H1
      obtain rfl := Option.some.inj H
      go_enter Tryd.func52, Tryd.ntmps52
      go_wp2_with (first | ((with_reducible refine gate_callee (f := 74) rfl ?_); refine goesL_ (some 8) rfl rfl Tryd.func74 (by kernel_rfl) rfl #[.int .i64 a0] rfl (by (try simp only [List.map_toArray, List.map_cons, List.map_nil]); first | done | rfl | (simp only [List.length_drop, List.length_take]; rfl)) ?_; (with_reducible refine (cmp_isNaN_int.calls a0 true _ A3.out).mono ?_); rintro e w' ⟨rfl, ⟨nd, rfl⟩⟩; refine ⟨_, rfl, ?_⟩) | ((with_reducible refine gate_callee (f := 74) rfl ?_); refine goesL_ (some 10) rfl rfl Tryd.func74 (by kernel_rfl) rfl #[.int .i64 a1] rfl (by (try simp only [List.map_toArray, List.map_cons, List.map_nil]); first | done | rfl | (simp only [List.length_drop, List.length_take]; rfl)) ?_; (with_reducible refine (cmp_isNaN_int.calls a1 true _ A4.out).mono ?_); rintro e w' ⟨rfl, ⟨nd, rfl⟩⟩; refine ⟨_, rfl, ?_⟩))
      go_ret
      exact ⟨by first | rfl | (simp; done) | (simp [*]; done), by repeat (first | exact Drawn0.refl _ | apply Drawn0.step)⟩
    · replace c6 := Bool.eq_false_iff.mpr c6
      subst c6
      have H1 : (some (-1)) = some r := by rw [if_neg (show ¬ (false = true) by decide)] at H; exact H
      clear H
      have H := H1
      clear H1
      obtain rfl := Option.some.inj H
      go_enter Tryd.func52, Tryd.ntmps52
      go_wp2_with (first | ((with_reducible refine gate_callee (f := 74) rfl ?_); refine goesL_ (some 8) rfl rfl Tryd.func74 (by kernel_rfl) rfl #[.int .i64 a0] rfl (by (try simp only [List.map_toArray, List.map_cons, List.map_nil]); first | done | rfl | (simp only [List.length_drop, List.length_take]; rfl)) ?_; (with_reducible refine (cmp_isNaN_int.calls a0 true _ A3.out).mono ?_); rintro e w' ⟨rfl, ⟨nd, rfl⟩⟩; refine ⟨_, rfl, ?_⟩) | ((with_reducible refine gate_callee (f := 74) rfl ?_); refine goesL_ (some 10) rfl rfl Tryd.func74 (by kernel_rfl) rfl #[.int .i64 a1] rfl (by (try simp only [List.map_toArray, List.map_cons, List.map_nil]); first | done | rfl | (simp only [List.length_drop, List.length_take]; rfl)) ?_; (with_reducible refine (cmp_isNaN_int.calls a1 false _ A4.out).mono ?_); rintro e w' ⟨rfl, ⟨nd, rfl⟩⟩; refine ⟨_, rfl, ?_⟩))
      go_ret
      exact ⟨by first | rfl | (simp; done) | (simp [*]; done), by repeat (first | exact Drawn0.refl _ | apply Drawn0.step)⟩
  · replace c5 := Bool.eq_false_iff.mpr c5
    subst c5
    have H1 : (if t103 = true then (some 1) else (if a0 < a1 then (some (-1)) else (if a0 > a1 then (some 1) else (some 0)))) = some r := by rw [if_neg (show ¬ (false = true) by decide)] at H; exact H
    clear H
    have H := H1
    clear H1
    by_cases c7 : t103 = true
    · subst c7
      have H1 : (some 1) = some r := by rw [if_pos rfl] at H; exact H
      clear H
      have H := H1
      clear H1
      obtain rfl := Option.some.inj H
      go_enter Tryd.func52, Tryd.ntmps52
      go_wp2_with (first | ((with_reducible refine gate_callee (f := 74) rfl ?_); refine goesL_ (some 8) rfl rfl Tryd.func74 (by kernel_rfl) rfl #[.int .i64 a0] rfl (by (try simp only [List.map_toArray, List.map_cons, List.map_nil]); first | done | rfl | (simp only [List.length_drop, List.length_take]; rfl)) ?_; (with_reducible refine (cmp_isNaN_int.calls a0 false _ A3.out).mono ?_); rintro e w' ⟨rfl, ⟨nd, rfl⟩⟩; refine ⟨_, rfl, ?_⟩) | ((with_reducible refine gate_callee (f := 74) rfl ?_); refine goesL_ (some 10) rfl rfl Tryd.func74 (by kernel_rfl) rfl #[.int .i64 a1] rfl (by (try simp only [List.map_toArray, List.map_cons, List.map_nil]); first | done | rfl | (simp only [List.length_drop, List.length_take]; rfl)) ?_; (with_reducible refine (cmp_isNaN_int.calls a1 true _ A4.out).mono ?_); rintro e w' ⟨rfl, ⟨nd, rfl⟩⟩; refine ⟨_, rfl, ?_⟩))
      go_ret
      exact ⟨by first | rfl | (simp; done) | (simp [*]; done), by repeat (first | exact Drawn0.refl _ | apply Drawn0.step)⟩
    · replace c7 := Bool.eq_false_iff.mpr c7
      subst c7
      have H1 : (if a0 < a1 then (some (-1)) else (if a0 > a1 then (some 1) else (some 0))) = some r := by rw [if_neg (show ¬ (false = true) by decide)] at H; exact H
      clear H
      have H := H1
      clear H1
      by_cases c8 : a0 < a1
      · rw [if_pos c8] at H
        have c8b0 : decide (a0 < a1) = true := decide_eq_true c8
        clear c8
        obtain rfl := Option.some.inj H
        go_enter Tryd.func52, Tryd.ntmps52
        go_wp2_with (first | ((with_reducible refine gate_callee (f := 74) rfl ?_); refine goesL_ (some 8) rfl rfl Tryd.func74 (by kernel_rfl) rfl #[.int .i64 a0] rfl (by (try simp only [List.map_toArray, List.map_cons, List.map_nil]); first | done | rfl | (simp only [List.length_drop, List.length_take]; rfl)) ?_; (with_reducible refine (cmp_isNaN_int.calls a0 false _ A3.out).mono ?_); rintro e w' ⟨rfl, ⟨nd, rfl⟩⟩; refine ⟨_, rfl, ?_⟩) | ((with_reducible refine gate_callee (f := 74) rfl ?_); refine goesL_ (some 10) rfl rfl Tryd.func74 (by kernel_rfl) rfl #[.int .i64 a1] rfl (by (try simp only [List.map_toArray, List.map_cons, List.map_nil]); first | done | rfl | (simp only [List.length_drop, List.length_take]; rfl)) ?_; (with_reducible refine (cmp_isNaN_int.calls a1 false _ A4.out).mono ?_); rintro e w' ⟨rfl, ⟨nd, rfl⟩⟩; refine ⟨_, rfl, ?_⟩))
        go_ret
        exact ⟨by first | rfl | (simp; done) | (simp [*]; done), by repeat (first | exact Drawn0.refl _ | apply Drawn0.step)⟩
      · rw [if_neg c8] at H
        have c8b0 : decide (a0 < a1) = false := decide_eq_false c8
        clear c8
        by_cases c9 : a0 > a1
        · rw [if_pos c9] at H
          have c9b0 : decide (a1 < a0) = true := decide_eq_true c9
          clear c9
          obtain rfl := Option.some.inj H
          go_enter Tryd.func52, Tryd.ntmps52
          go_wp2_with (first | ((with_reducible refine gate_callee (f := 74) rfl ?_); refine goesL_ (some 8) rfl rfl Tryd.func74 (by kernel_rfl) rfl #[.int .i64 a0] rfl (by (try simp only [List.map_toArray, List.map_cons, List.map_nil]); first | done | rfl | (simp only [List.length_drop, List.length_take]; rfl)) ?_; (with_reducible refine (cmp_isNaN_int.calls a0 false _ A3.out).mono ?_); rintro e w' ⟨rfl, ⟨nd, rfl⟩⟩; refine ⟨_, rfl, ?_⟩) | ((with_reducible refine gate_callee (f := 74) rfl ?_); refine goesL_ (some 10) rfl rfl Tryd.func74 (by kernel_rfl) rfl #[.int .i64 a1] rfl (by (try simp only [List.map_toArray, List.map_cons, List.map_nil]); first | done | rfl | (simp only [List.length_drop, List.length_take]; rfl)) ?_; (with_reducible refine (cmp_isNaN_int.calls a1 false _ A4.out).mono ?_); rintro e w' ⟨rfl, ⟨nd, rfl⟩⟩; refine ⟨_, rfl, ?_⟩))
          go_ret
          exact ⟨by first | rfl | (simp; done) | (simp [*]; done), by repeat (first | exact Drawn0.refl _ | apply Drawn0.step)⟩
        · rw [if_neg c9] at H
          have c9b0 : decide (a1 < a0) = false := decide_eq_false c9
          clear c9
          obtain rfl := Option.some.inj H
          go_enter Tryd.func52, Tryd.ntmps52
          go_wp2_with (first | ((with_reducible refine gate_callee (f := 74) rfl ?_); refine goesL_ (some 8) rfl rfl Tryd.func74 (by kernel_rfl) rfl #[.int .i64 a0] rfl (by (try simp only [List.map_toArray, List.map_cons, List.map_nil]); first | done | rfl | (simp only [List.length_drop, List.length_take]; rfl)) ?_; (with_reducible refine (cmp_isNaN_int.calls a0 false _ A3.out).mono ?_); rintro e w' ⟨rfl, ⟨nd, rfl⟩⟩; refine ⟨_, rfl, ?_⟩) | ((with_reducible refine gate_callee (f := 74) rfl ?_); refine goesL_ (some 10) rfl rfl Tryd.func74 (by kernel_rfl) rfl #[.int .i64 a1] rfl (by (try simp only [List.map_toArray, List.map_cons, List.map_nil]); first | done | rfl | (simp only [List.length_drop, List.length_take]; rfl)) ?_; (with_reducible refine (cmp_isNaN_int.calls a1 false _ A4.out).mono ?_); rintro e w' ⟨rfl, ⟨nd, rfl⟩⟩; refine ⟨_, rfl, ?_⟩))
          go_ret
          exact ⟨by first | rfl | (simp; done) | (simp [*]; done), by repeat (first | exact Drawn0.refl _ | apply Drawn0.step)⟩

/-! ### item_Compare: function 25 -/
def item_Compare.f (k : Nat) (a0_0 : Int) (a0_1 : Int) (a1_0 : Int) (a1_1 : Int) : Option (Int) := (cmp_Compare_int.f a0_0 a1_0).bind fun t106 => ((cmp_Compare_int.f a0_1 a1_1).bind fun t107 => ((cmp_Or_int.f k (([t106, t107] : List Int))).bind fun t111 => (some t111)))
theorem item_Compare.mono : ∀ a0 a1 a2 a3 k, LeO (item_Compare.f k a0 a1 a2 a3) (item_Compare.f (k + 1) a0 a1 a2 a3) := by
  intro a0 a1 a2 a3 k
  unfold item_Compare.f
  repeat' first
      | (with_reducible exact cmp_Or_int.mono _ _)
      | (with_reducible exact LeO.refl _)
      | (with_reducible exact LeO.none _)
      | (with_reducible refine LeO.ite ?_ ?_)
      | (with_reducible refine LeO.bind ?_ (fun _ => ?_))
      | exact cmp_Or_int.mono _ _
      | exact LeO.none _
      | refine LeO.ite ?_ ?_
      | refine LeO.bind ?_ (fun _ => ?_)
def item_Compare.T1 : Bool × List (List Nat × List Nat) := (true, [([], []), ([0], [0]), ([], []), ([2], [2]), ([1, 3], [1, 3]), ([], []), ([5], [5]), ([], []), ([7], [7]), ([6, 8, 4], [6, 8]), ([4, 9], [4, 9]), ([10, 9], [10]), ([11, 11, 0, 1, 2, 3, 4, 5, 6, 7, 8, 9, 10, 11], [11])])
def item_Compare.B1 : List Nat := [0, 1, 0, 4, 15, 0, 32, 0, 128, 511, 1023, 2047, 4095]
theorem item_Compare.tab1 : rtab .any (opsOf Tryd.f25 1) = item_Compare.T1 := by kernel_rfl
theorem item_Compare.bits1 : waitsOk item_Compare.T1.2 item_Compare.B1 = true := by kernel_rfl
set_option maxHeartbeats 8000000 in
set_option maxRecDepth 100000 in
theorem item_Compare.calls (k : Nat) (a0_0 : Int) (a0_1 : Int) (a1_0 : Int) (a1_1 : Int) (r : Int) (w : World) (h : item_Compare.f k a0_0 a0_1 a1_0 a1_1 = some r) :
    Calls Tryd.prog 25 #[.agg #[.int .i64 a0_0, .int .i64 a0_1], .agg #[.int .i64 a1_0, .int .i64 a1_1]] w fun e w' => e = .returned (.int .i64 r) ∧ Below w.heap.size w w' := by
  have hu41 := Tryd.underlying41
  have HB := Aside0.mk (Below.refl w.heap.size w)
  have H : ((cmp_Compare_int.f a0_0 a1_0).bind fun t106 => ((cmp_Compare_int.f a0_1 a1_1).bind fun t107 => ((cmp_Or_int.f k (([t106, t107] : List Int))).bind fun t111 => (some t111)))) = some r := h
  clear h
  replace H := Option.bind_eq_some_iff.mp H
  obtain ⟨t106, A30, H⟩ := H
  replace H : ((cmp_Compare_int.f a0_1 a1_1).bind fun t107 => ((cmp_Or_int.f k (([t106, t107] : List Int))).bind fun t111 => (some t111))) = some r := H
  have A3 := Aside0.mk A30
  clear A30
  replace H := Option.bind_eq_some_iff.mp H
  obtain ⟨t107, A40, H⟩ := H
  replace H : ((cmp_Or_int.f k (([t106, t107] : List Int))).bind fun t111 => (some t111)) = some r := H
  have A4 := Aside0.mk A40
  clear A40
  obtain ⟨y108, hy108⟩ : ∃ y_ : List Int, y_ = (([t106, t107] : List Int)) := ⟨_, rfl⟩
  replace H : ((cmp_Or_int.f k y108).bind fun t111 => (some t111)) = some r := by first | (rw [hy108]; with_reducible exact H) | (have H2_ := (Option.bind_some _ _).symm.trans H; rw [hy108]; with_reducible exact H2_) | (have H2_ := (Option.bind_some _ _).symm.trans H; with_reducible exact H2_) | with_reducible exact H | (rw [hy108]; exact H) | exact H
  have Ny108 := Aside0.mk hy108
  clear hy108
  replace H := Option.bind_eq_some_iff.mp H
  obtain ⟨t111, A50, H⟩ := H
  replace H : (some t111) = some r := H
  have A5 := Aside0.mk A50
  clear A50
  obtain rfl := Option.some.inj H
  go_enter Tryd.func25, Tryd.ntmps25
  try go_wp2_with (first | ((with_reducible refine gate_dst (N := 2) rfl ?_); refine box_event ?hg (N := 2) ?hd (cs := #[.int .i64 a0_0, .int .i64 a0_1]) (t := 41) ?hr ?_; (case hd => rfl); (case hg => rfl); (case hr => first | (go_simp; done) | (go_simp; rfl)); intro gb104 hg w6 hbox hb; have n0_ := Aside0.mk (below_step (by repeat (first | (with_reducible first | exact HB.out | apply below_alloc | apply pw_below_drewN | apply below_drew1) | exact HB.out)) hb); have n1_ := Aside0.mk (hbox); have n2_ := Aside0.mk ((by rw [hg]; exact (below_size (by repeat (first | (with_reducible first | exact HB.out | apply below_alloc | apply pw_below_drewN | apply below_drew1) | exact HB.out))) : w.heap.size ≤ gb104)); have n3_ := Aside0.mk ((by rw [hg]; exact (below_size (by repeat (first | (with_reducible first | exact HB.out | apply below_alloc | apply pw_below_drewN | apply below_drew1) | exact HB.out))) : w.heap.size ≤ gb104)); clear HB; have HB := n0_; have BK104 := n1_; have GW104 := n2_; have GE104 := n3_; clear n0_ n1_ n2_ n3_; clear hb hbox hg) | ((with_reducible refine gate_dst (N := 3) rfl ?_); refine box_event ?hg (N := 3) ?hd (cs := #[.int .i64 a1_0, .int .i64 a1_1]) (t := 41) ?hr ?_; (case hd => rfl); (case hg => rfl); (case hr => first | (go_simp; done) | (go_simp; rfl)); intro gb105 hg w7 hbox hb; have n0_ := Aside0.mk (blk_below (g := gb104) (o := .cells #[.int .i64 a0_0, .int .i64 a0_1] 41 (0, 0)) (by (with_reducible repeat (first | refine blk_drewN ?_ _ | refine blk_drew ?_ | refine blk_alloc ?_ _)); exact BK104.out) hb); have n1_ := Aside0.mk (below_step (by repeat (first | (with_reducible first | exact HB.out | apply below_alloc | apply pw_below_drewN | apply below_drew1 | refine below_set ?_ GE104.out) | exact HB.out)) hb); have n2_ := Aside0.mk (hbox); have n3_ := Aside0.mk ((by rw [hg]; exact (below_size (by repeat (first | (with_reducible first | exact HB.out | apply below_alloc | apply pw_below_drewN | apply below_drew1 | refine below_set ?_ GE104.out) | exact HB.out))) : w.heap.size ≤ gb105)); have n4_ := Aside0.mk ((by rw [hg]; exact (below_size (by repeat (first | (with_reducible first | exact HB.out | apply below_alloc | apply pw_below_drewN | apply below_drew1 | refine below_set ?_ GE104.out) | exact HB.out))) : w.heap.size ≤ gb105)); have n5_ := Aside0.mk ((by rw [hg]; exact Nat.ne_of_lt (blk_lt (g := gb104) (o := .cells #[.int .i64 a0_0, .int .i64 a0_1] 41 (0, 0)) (by (with_reducible repeat (first | refine blk_drewN ?_ _ | refine blk_drew ?_ | refine blk_alloc ?_ _)); exact BK104.out)) : gb104 ≠ gb105)); have n6_ := Aside0.mk ((by rw [hg]; exact Nat.ne_of_gt (blk_lt (g := gb104) (o := .cells #[.int .i64 a0_0, .int .i64 a0_1] 41 (0, 0)) (by (with_reducible repeat (first | refine blk_drewN ?_ _ | refine blk_drew ?_ | refine blk_alloc ?_ _)); exact BK104.out)) : gb105 ≠ gb104)); clear BK104; clear HB; have BK104 := n0_; have HB := n1_; have BK105 := n2_; have GW105 := n3_; have GE105 := n4_; have NB104_105 := n5_; have NB105_104 := n6_; clear n0_ n1_ n2_ n3_ n4_ n5_ n6_; clear hb hbox hg))
  have n0_ := Aside0.mk (blk_drew BK104.out)
  have n1_ := Aside0.mk (blk_drew BK105.out)
  have n2_ := Aside0.mk (below_drew1 HB.out)
  clear BK104
  clear BK105
  clear HB
  have BK104 := n0_
  have BK105 := n1_
  have HB := n2_
  clear n0_ n1_ n2_
  refine start_ (n := 13) (S := fun w' => w'.cell? ⟨gb104, 0, none⟩ = some (.int .i64 a0_0) ∧ w'.cell? ⟨gb104, 1, none⟩ = some (.int .i64 a0_1) ∧ w'.cell? ⟨gb105, 0, none⟩ = some (.int .i64 a1_0) ∧ w'.cell? ⟨gb105, 1, none⟩ = some (.int .i64 a1_1)) (ds := []) #[false, false, false, false, false, false, false, false, false, false, false, false, false] (by kernel_rfl) rfl rfl ⟨(blk_cell BK104.out 0).trans rfl, (blk_cell BK104.out 1).trans rfl, (blk_cell BK105.out 0).trans rfl, (blk_cell BK105.out 1).trans rfl⟩ (fun hHeld => ?_); refine with_tabW item_Compare.tab1 item_Compare.bits1 (fun HT_ HW_ => ?_)
  generalize w7.drew = w8 at BK104 BK105 HB hHeld ⊢
  refine pure_ (i := 0) (N := some 5) (v := ?_) (a' := ?_) #[true, false, false, false, false, false, false, false, false, false, false, false, false] rfl rfl (any_of HT_.out (by kernel_rfl)) (fun _ _ _ h => h) (Or.inl ⟨by rfl, ?_⟩) ?_ ?_
  rotate_left
  · intro w'
    go_simp
    with_reducible rfl
  rotate_left
  · simp only [Act.put, List.setIfInBounds_toArray, List.set_cons_zero, List.set_cons_succ, i64_w, i32_w]
    rfl
  refine pure_ (i := 2) (N := some 7) (v := ?_) (a' := ?_) #[true, false, true, false, false, false, false, false, false, false, false, false, false] rfl rfl (any_of HT_.out (by kernel_rfl)) (fun _ _ _ h => h) (Or.inl ⟨by rfl, ?_⟩) ?_ ?_
  rotate_left
  · intro w'
    go_simp
    with_reducible rfl
  rotate_left
  · simp only [Act.put, List.setIfInBounds_toArray, List.set_cons_zero, List.set_cons_succ, i64_w, i32_w]
    rfl
  refine pure_ (i := 5) (N := some 10) (v := ?_) (a' := ?_) #[true, false, true, false, false, true, false, false, false, false, false, false, false] rfl rfl (any_of HT_.out (by kernel_rfl)) (fun _ _ _ h => h) (Or.inl ⟨by rfl, ?_⟩) ?_ ?_
  rotate_left
  · intro w'
    go_simp
    with_reducible rfl
  rotate_left
  · simp only [Act.put, List.setIfInBounds_toArray, List.set_cons_zero, List.set_cons_succ, i64_w, i32_w]
    rfl
  refine pure_ (i := 7) (N := some 12) (v := ?_) (a' := ?_) #[true, false, true, false, false, true, false, true, false, false, false, false, false] rfl rfl (any_of HT_.out (by kernel_rfl)) (fun _ _ _ h => h) (Or.inl ⟨by rfl, ?_⟩) ?_ ?_
  rotate_left
  · intro w'
    go_simp
    with_reducible rfl
  rotate_left
  · simp only [Act.put, List.setIfInBounds_toArray, List.set_cons_zero, List.set_cons_succ, i64_w, i32_w]
    rfl
  refine take_ (i := 1) (N := some 6) (v := ?_) (a' := ?_) #[true, true, true, false, false, true, false, true, false, false, false, false, false] rfl rfl (take_ofW HT_.out HW_.out (by kernel_rfl)) (fun _ _ _ h => h) (Or.inl ⟨by rfl, ?_⟩) hHeld ?_ ?_
  rotate_left
  · rintro w' ⟨s0, s1, s2, s3⟩
    go_simp
    with_reducible rfl
  rotate_left
  · simp only [Act.put, List.setIfInBounds_toArray, List.set_cons_zero, List.set_cons_succ, i64_w, i32_w]
    rfl
  refine take_ (i := 3) (N := some 8) (v := ?_) (a' := ?_) #[true, true, true, true, false, true, false, true, false, false, false, false, false] rfl rfl (take_ofW HT_.out HW_.out (by kernel_rfl)) (fun _ _ _ h => h) (Or.inl ⟨by rfl, ?_⟩) hHeld ?_ ?_
  rotate_left
  · rintro w' ⟨s0, s1, s2, s3⟩
    go_simp
    with_reducible rfl
  rotate_left
  · simp only [Act.put, List.setIfInBounds_toArray, List.set_cons_zero, List.set_cons_succ, i64_w, i32_w]
    rfl
  refine take_ (i := 6) (N := some 11) (v := ?_) (a' := ?_) #[true, true, true, true, false, true, true, true, false, false, false, false, false] rfl rfl (take_ofW HT_.out HW_.out (by kernel_rfl)) (fun _ _ _ h => h) (Or.inl ⟨by rfl, ?_⟩) hHeld ?_ ?_
  rotate_left
  · rintro w' ⟨s0, s1, s2, s3⟩
    go_simp
    with_reducible rfl
  rotate_left
  · simp only [Act.put, List.setIfInBounds_toArray, List.set_cons_zero, List.set_cons_succ, i64_w, i32_w]
    rfl
  refine take_ (i := 8) (N := some 13) (v := ?_) (a' := ?_) #[true, true, true, true, false, true, true, true, true, false, false, false, false] rfl rfl (take_ofW HT_.out HW_.out (by kernel_rfl)) (fun _ _ _ h => h) (Or.inl ⟨by rfl, ?_⟩) hHeld ?_ ?_
  rotate_left
  · rintro w' ⟨s0, s1, s2, s3⟩
    go_simp
    with_reducible rfl
  rotate_left
  · simp only [Act.put, List.setIfInBounds_toArray, List.set_cons_zero, List.set_cons_succ, i64_w, i32_w]
    rfl
  refine one_ (i := 4) (N := some 9) #[true, true, true, true, true, true, true, true, true, false, false, false, false] rfl rfl (one_of HT_.out (by kernel_rfl)) (by decide) (fun K hK => ?_)
  refine goes_ Tryd.func52 (by kernel_rfl) rfl #[.int .i64 a0_0, .int .i64 a1_0] (by rfl) rfl rfl (by (try simp only [List.map_toArray, List.map_cons, List.map_nil]); first | done | rfl | (simp only [List.length_drop, List.length_take]; rfl)) ?_
  with_reducible refine (cmp_Compare_int.calls a0_0 a1_0 t106 _ A3.out).mono ?_
  rintro e w' ⟨rfl, ⟨nd, rfl⟩⟩
  refine ⟨_, rfl, ?_⟩
  refine hK.out _ _ ⟨(blk_cell BK104.out 0).trans rfl, (blk_cell BK104.out 1).trans rfl, (blk_cell BK105.out 0).trans rfl, (blk_cell BK105.out 1).trans rfl⟩ (fun hHeld => ?_)
  clear hK K
  refine norm_ (a' := ?_) ?_ ?_
  rotate_left
  · show Act.put _ (some 9) _ = _
    simp only [Act.put, List.setIfInBounds_toArray, List.set_cons_zero, List.set_cons_succ, i64_w, i32_w]
    rfl
  refine one_ (i := 9) (N := some 14) #[true, true, true, true, true, true, true, true, true, true, false, false, false] rfl rfl (one_of HT_.out (by kernel_rfl)) (by decide) (fun K hK => ?_)
  refine goes_ Tryd.func52 (by kernel_rfl) rfl #[.int .i64 a0_1, .int .i64 a1_1] (by rfl) rfl rfl (by (try simp only [List.map_toArray, List.map_cons, List.map_nil]); first | done | rfl | (simp only [List.length_drop, List.length_take]; rfl)) ?_
  with_reducible refine (cmp_Compare_int.calls a0_1 a1_1 t107 _ A4.out).mono ?_
  rintro e w' ⟨rfl, ⟨nd, rfl⟩⟩
  refine ⟨_, rfl, ?_⟩
  refine hK.out _ _ ⟨(blk_cell BK104.out 0).trans rfl, (blk_cell BK104.out 1).trans rfl, (blk_cell BK105.out 0).trans rfl, (blk_cell BK105.out 1).trans rfl⟩ (fun hHeld => ?_)
  clear hK K
  refine norm_ (a' := ?_) ?_ ?_
  rotate_left
  · show Act.put _ (some 14) _ = _
    simp only [Act.put, List.setIfInBounds_toArray, List.set_cons_zero, List.set_cons_succ, i64_w, i32_w]
    rfl
  refine one_ (i := 10) (N := some 15) #[true, true, true, true, true, true, true, true, true, true, true, false, false] rfl rfl (one_of HT_.out (by kernel_rfl)) (by decide) (fun K hK => ?_)
  refine Kd.R_lit_step (Kd.int .i64) _ 3 ?hg (N := 15) ?hd (xs := ([t106, t107] : List Int)) (inner := [.int .i64 t106, .int .i64 t107]) (ok := fun _ => True) (okp := fun _ => True) ?hr ?hp (fun _ hk => hk) trivial (Below.refl _ _) (Nat.le_refl _) (by simp) ?_; (case hd => rfl); (case hg => rfl); (case hr => first | (go_simp; done) | (go_simp; rfl)); (case hp => exact (Reps.one (show Kd.M (Kd.int .i64) _ _ _ t106 [.int .i64 t106] from rfl) (Reps.one (show Kd.M (Kd.int .i64) _ _ _ t107 [.int .i64 t107] from rfl) (Reps.none _ _))))
  intro v109 w9 ho10 hb hg_ hnew_
  clear hg_ hnew_
  (first | rw [← Ny108.out] at ho10 | (simp only [Int.reduceToNat] at ho10; rw [← Ny108.out] at ho10))
  have n0_ := Aside0.mk (Kd.R_lower ho10 (below_size (by repeat (first | (with_reducible first | exact HB.out | apply below_alloc | apply pw_below_drewN | apply below_drew1 | refine below_set ?_ GE104.out | refine below_set ?_ GE105.out) | exact HB.out))))
  have n1_ := Aside0.mk (blk_below (g := gb104) (o := .cells #[.int .i64 a0_0, .int .i64 a0_1] 41 (0, 0)) (by (with_reducible repeat (first | refine blk_drewN ?_ _ | refine blk_drew ?_ | refine blk_alloc ?_ _)); exact BK104.out) hb)
  have n2_ := Aside0.mk (blk_below (g := gb105) (o := .cells #[.int .i64 a1_0, .int .i64 a1_1] 41 (0, 0)) (by (with_reducible repeat (first | refine blk_drewN ?_ _ | refine blk_drew ?_ | refine blk_alloc ?_ _)); exact BK105.out) hb)
  have n3_ := Aside0.mk (below_step (by repeat (first | (with_reducible first | exact HB.out | apply below_alloc | apply pw_below_drewN | apply below_drew1 | refine below_set ?_ GE104.out | refine below_set ?_ GE105.out) | exact HB.out)) hb)
  clear BK104
  clear BK105
  clear HB
  have HO110 := n0_
  have BK104 := n1_
  have BK105 := n2_
  have HB := n3_
  clear n0_ n1_ n2_ n3_
  clear hb ho10
  obtain ⟨Ao11, co11, eo11⟩ := Kd.R_slice HO110.out
  (first | subst eo11 | (injection eo11 with f1_ f2_ f3_; have f4_ := f1_.symm; have f5_ := f3_.symm; clear f1_ f2_ f3_; subst f4_; subst f5_))
  refine hK.out _ _ ⟨(blk_cell BK104.out 0).trans rfl, (blk_cell BK104.out 1).trans rfl, (blk_cell BK105.out 0).trans rfl, (blk_cell BK105.out 1).trans rfl⟩ (fun hHeld => ?_)
  clear hK K
  refine norm_ (a' := ?_) ?_ ?_
  rotate_left
  · show Act.put _ (some 15) _ = _
    simp only [Act.put, List.setIfInBounds_toArray, List.set_cons_zero, List.set_cons_succ, i64_w, i32_w]
    rfl
  refine one_ (i := 11) (N := some 16) #[true, true, true, true, true, true, true, true, true, true, true, true, false] rfl rfl (one_of HT_.out (by kernel_rfl)) (by decide) (fun K hK => ?_)
  refine goes_ Tryd.func51 (by kernel_rfl) rfl #[.slice Ao11 y108.length co11] (by rfl) rfl rfl (by (try simp only [List.map_toArray, List.map_cons, List.map_nil]); first | done | rfl | (simp only [List.length_drop, List.length_take]; rfl)) ?_
  with_reducible refine (cmp_Or_int.calls k _ _ y108 t111 _ ?side1 ?side2 A5.out).mono ?_
  (case side1 => repeat (first | exact (Kd.R_reads' HO110.out).2.2 | (with_reducible refine Kd.C_alloc ?_ _) | (with_reducible refine Kd.C_drewN ?_ _) | (with_reducible refine Kd.C_drew ?_)))
  (case side2 => exact (Kd.R_reads' HO110.out).2.1)
  rintro e w' ⟨rfl, ⟨nd, rfl⟩⟩
  refine ⟨_, rfl, ?_⟩
  refine hK.out _ _ ⟨(blk_cell BK104.out 0).trans rfl, (blk_cell BK104.out 1).trans rfl, (blk_cell BK105.out 0).trans rfl, (blk_cell BK105.out 1).trans rfl⟩ (fun hHeld => ?_)
  clear hK K
  refine norm_ (a' := ?_) ?_ ?_
  rotate_left
  · show Act.put _ (some 16) _ = _
    simp only [Act.put, List.setIfInBounds_toArray, List.set_cons_zero, List.set_cons_succ, i64_w, i32_w]
    rfl
  refine pure_ (i := 12) (N := some 4) (v := ?_) (a' := ?_) #[true, true, true, true, true, true, true, true, true, true, true, true, true] rfl rfl (any_of HT_.out (by kernel_rfl)) (fun _ _ _ h => h) (Or.inl ⟨by rfl, ?_⟩) ?_ ?_
  rotate_left
  · intro w'
    go_simp
    with_reducible rfl
  rotate_left
  · simp only [Act.put, List.setIfInBounds_toArray, List.set_cons_zero, List.set_cons_succ, i64_w, i32_w]
    rfl
  refine done_ (done_of HT_.out (by kernel_rfl)) ?_
  try go_wp2
  go_ret
  exact ⟨by first | rfl | (simp [errW_none, errW_some] <;> rfl) | (simp [*, errW_none, errW_some] <;> rfl), by repeat (first | (with_reducible first | exact HB.out | apply below_alloc | apply pw_below_drewN | apply below_drew1 | refine below_set ?_ GE104.out | refine below_set ?_ GE105.out) | exact HB.out)⟩

end Go.Proofs.YtddmlhcjbifkoaaDoor.ItemCmp
/- The program's Text, Read, Compare of items. No conditions. -/
namespace Go.Proofs.YtddmlhcjbifkoaaDoor.Item
open Go.Lib Go.RowKit Go.Proofs.YtddmlhcjbifkoaaDoor.Mem Go.Proofs.YtddmlhcjbifkoaaDoorW.PrintWords Go.Proofs.YtddmlhcjbifkoaaDoor.PItemReads Go.Proofs.YtddmlhcjbifkoaaDoor.ItemCmp

theorem var_step {w w' : World} {n : String} {cs : Array Value} (h : w.var? Tryd.prog n = some cs) (hb : Below w.heap.size w w') : w'.var? Tryd.prog n = some cs := by
  unfold World.var? at h ⊢
  cases hg : Tryd.prog.globalNamed n with
  | none => simp [hg] at h
  | some g =>
    simp only [hg, Option.bind_some] at h ⊢
    have hlt : g < w.heap.size := by
      rcases Nat.lt_or_ge g w.heap.size with h' | h'
      · exact h'
      · simp [Array.getElem?_eq_none h'] at h
    rw [hb.block g hlt]
    exact h

/-- What the library's variables hold. -/
structure Env (w : World) : Prop where
  tab : Lib.TabIs Tryd.prog w "internal/strconv.uint64pow10" .u64 Lib.pow10Tab
  max : ∃ m : Int, w.cell? ⟨3, 0, none⟩ = some (.int .i64 m)
  syn : ∃ tp p, w.var? Tryd.prog "strconv.ErrSyntax" = some #[.iface tp p]
  rng : ∃ tp p, w.var? Tryd.prog "strconv.ErrRange" = some #[.iface tp p]
theorem Env.step {w w' : World} (h : Env w) (hb : Below w.heap.size w w') : Env w' := by
  obtain ⟨h1, ⟨m, h2⟩, ⟨t3, p3, h3⟩, ⟨t4, p4, h4⟩⟩ := h
  refine ⟨?_, ⟨m, (hb.cell (p := ⟨3, 0, none⟩) (World.block_lt_of_cell? w _ h2)).trans h2⟩, ⟨t3, p3, var_step h3 hb⟩, ⟨t4, p4, var_step h4 hb⟩⟩
  unfold Lib.TabIs at h1 ⊢
  exact var_step h1 hb

theorem itoa_calls (n : Int) (w : World) (hn : In64 n) (he : Env w) : Calls Tryd.prog 53 #[.int .i64 n] w fun e w' => e = .returned (.string (mk (itoa n))) ∧ Below w.heap.size w w' := by
  refine (Tryd.strconv_Itoa n hn.1 hn.2 w he.tab).mono ?_
  rintro e w' ⟨rfl, k, os, rfl⟩
  exact ⟨rfl, Lib.below_grow _ _ (Nat.le_refl _) _ _⟩

set_option maxRecDepth 100000 in
set_option maxHeartbeats 1000000 in
theorem text (k i : Int) (w : World) (hk : In64 k) (hi : In64 i) (he : Env w) :
    Calls Tryd.prog 27 #[.agg #[.int .i64 k, .int .i64 i]] w fun e w' => e = .returned (.string (mk (textOf k i))) ∧ Below w.heap.size w w' := by
  have hu41 := Tryd.underlying41
  obtain ⟨f, hf⟩ : ∃ f : Int → ByteArray, ∀ n, f n = mk (itoa n) := ⟨fun n => mk (itoa n), fun _ => rfl⟩
  have CA : Hid (∀ n w1, In64 n → Below w.heap.size w w1 → Calls Tryd.prog 53 #[.int .i64 n] w1 fun e w' => e = .returned (.string (f n)) ∧ Below w1.heap.size w1 w') := Lib.hid (fun n w1 hn hb => by rw [hf n]; exact itoa_calls n w1 hn (he.step hb))
  have E : Hid ((f k ++ (⟨#[35]⟩ : ByteArray)) ++ f i = mk (textOf k i)) := Lib.hid (by
    rw [hf, hf, show (⟨#[35]⟩ : ByteArray) = mk [35] from rfl, mk_append, mk_append]; unfold textOf; simp)
  have l1 : (f k).size ≤ 20 := by rw [hf, mk_size]; exact itoa_len hk
  have l2 : (f i).size ≤ 20 := by rw [hf, mk_size]; exact itoa_len hi
  have l3 : (f k ++ (⟨#[35]⟩ : ByteArray)).size ≤ 21 := by
    rw [hf, show (⟨#[35]⟩ : ByteArray) = mk [35] from rfl, mk_append, mk_size, List.length_append]
    have := itoa_len hk
    simp; omega
  clear hf he
  obtain ⟨wa, hwa⟩ : ∃ wa, wa = w.alloc (Obj.cells #[Value.int .i64 k, .int .i64 i] 41) := ⟨_, rfl⟩
  have HA : Hid (Below w.heap.size w wa) := by subst hwa; exact (Below.refl _ _).alloc (Nat.le_refl _) _
  have HBa : Hid (Blk wa w.heap.size #[.int .i64 k, .int .i64 i] 41) := by subst hwa; exact Blk.new _ _ _
  have HE := Lib.hid hwa
  clear hwa
  go_enter Tryd.func27, Tryd.ntmps27
  go_wp2_with fail
  rw [← HE.out]
  have hc0 := HBa.out.cell (j := 0) rfl
  have hc1 := HBa.out.cell (j := 1) rfl
  have HBd : Hid (Blk wa.drew w.heap.size #[.int .i64 k, .int .i64 i] 41) := HBa.out.drew
  have HD : Hid (Below w.heap.size w wa.drew) := HA.out.drew
  clear HE HBa HA
  go_region_with (first
    | (go_at_call 53; refine (CA.out _ _ (by assumption) HD.out).mono ?_; rintro e w3 ⟨rfl, hb⟩; have hB3 := HBd.out.below hb; have hk0 := hB3.cell (j := 0) rfl; have hk1 := hB3.cell (j := 1) rfl; replace HD := Lib.hid (HD.out.trans (hb.mono HD.out.size)); replace HBd := Lib.hid hB3; clear hb hB3))
  all_goals (go_wp2; go_ret; exact ⟨by rw [← E.out]; rfl, HD.out⟩)

set_option maxRecDepth 100000 in
set_option maxHeartbeats 1000000 in
theorem refText (k i : Int) (w : World) (hk : In64 k) (hi : In64 i) :
    Calls Tryd.prog 29 #[.agg #[.int .i64 k, .int .i64 i]] w fun e w' => e = .returned (.string (mk (textOf k i))) ∧ Below w.heap.size w w' := by
  have hu41 := Tryd.underlying41
  obtain ⟨f, hf⟩ : ∃ f : Int → ByteArray, ∀ n, f n = mk (itoa n) := ⟨fun n => mk (itoa n), fun _ => rfl⟩
  have CA : Hid (∀ n w1, In64 n → Below w.heap.size w w1 → Calls Tryd.prog 35 #[.int .i64 n] w1 fun e w' => e = .returned (.string (f n)) ∧ Below w1.heap.size w1 w') := Lib.hid (fun n w1 hn hb => by rw [hf n]; exact whilomref02_Number.calls 30 n (mk (itoa n)) w1 (number_ev hn (Nat.le_refl _)))
  have E : Hid ((f k ++ (⟨#[35]⟩ : ByteArray)) ++ f i = mk (textOf k i)) := Lib.hid (by
    rw [hf, hf, show (⟨#[35]⟩ : ByteArray) = mk [35] from rfl, mk_append, mk_append]; unfold textOf; simp)
  have l1 : (f k).size ≤ 20 := by rw [hf, mk_size]; exact itoa_len hk
  have l2 : (f i).size ≤ 20 := by rw [hf, mk_size]; exact itoa_len hi
  have l3 : (f k ++ (⟨#[35]⟩ : ByteArray)).size ≤ 21 := by
    rw [hf, show (⟨#[35]⟩ : ByteArray) = mk [35] from rfl, mk_append, mk_size, List.length_append]
    have := itoa_len hk
    simp; omega
  clear hf
  obtain ⟨wa, hwa⟩ : ∃ wa, wa = w.alloc (Obj.cells #[Value.int .i64 k, .int .i64 i] 41) := ⟨_, rfl⟩
  have HA : Hid (Below w.heap.size w wa) := by subst hwa; exact (Below.refl _ _).alloc (Nat.le_refl _) _
  have HBa : Hid (Blk wa w.heap.size #[.int .i64 k, .int .i64 i] 41) := by subst hwa; exact Blk.new _ _ _
  have HE := Lib.hid hwa
  clear hwa
  go_enter Tryd.func29, Tryd.ntmps29
  go_wp2_with fail
  rw [← HE.out]
  have hc0 := HBa.out.cell (j := 0) rfl
  have hc1 := HBa.out.cell (j := 1) rfl
  have HBd : Hid (Blk wa.drew w.heap.size #[.int .i64 k, .int .i64 i] 41) := HBa.out.drew
  have HD : Hid (Below w.heap.size w wa.drew) := HA.out.drew
  clear HE HBa HA
  go_region_with (first
    | (go_at_call 35; refine (CA.out _ _ (by assumption) HD.out).mono ?_; rintro e w3 ⟨rfl, hb⟩; have hB3 := HBd.out.below hb; have hk0 := hB3.cell (j := 0) rfl; have hk1 := hB3.cell (j := 1) rfl; replace HD := Lib.hid (HD.out.trans (hb.mono HD.out.size)); replace HBd := Lib.hid hB3; clear hb hB3))
  all_goals (go_wp2; go_ret; exact ⟨by rw [← E.out]; rfl, HD.out⟩)

/-- Atoi, at every text. -/
theorem atoi (s : ByteArray) (w : World) (hs : s.size ≤ 1000000) (he : Env w) : Calls Tryd.prog 55 #[.string s] w fun e w' =>
    (∃ v ev, e = .returned (.tuple #[.int .i64 v, ev]) ∧ In64 v ∧ ((ev = .nilIface ∧ Lib.atoiAll s.data.toList = .ok v) ∨ (∃ a, ev = .iface 128 (.pointer (some a))) ∧ ∀ v, Lib.atoiAll s.data.toList ≠ .ok v)) ∧ Below w.heap.size w w' := by
  cases h : Lib.atoiAll s.data.toList with
  | ok v =>
    refine (Tryd.strconv_Atoi_ok s (by omega) v h w).mono ?_
    rintro e w' ⟨rfl, hw⟩
    refine ⟨⟨v, _, rfl, atoiAll_bounds h, Or.inl ⟨rfl, rfl⟩⟩, ?_⟩
    rcases hw with rfl | ⟨t, rfl⟩
    · exact Below.refl _ _
    · exact ⟨rfl, rfl, rfl, by rw [Lib.bytesWorld_size]; omega, fun k hk => Lib.bytesWorld_at_old w 5 t k hk⟩
  | range =>
    obtain ⟨tp, p, hv⟩ := he.rng
    refine (Tryd.strconv_Atoi_range_var s (by omega) h tp p w hv).mono ?_
    rintro e w' ⟨N, rfl, _, _, hb⟩
    exact ⟨⟨_, _, rfl, atoiSat_bounds _, Or.inr ⟨⟨_, rfl⟩, fun v hv => by cases hv⟩⟩, hb⟩
  | _ =>
    obtain ⟨tp, p, hv⟩ := he.syn
    refine (Tryd.strconv_Atoi_syntax_var s (by omega) h tp p w hv).mono ?_
    rintro e w' ⟨N, rfl, _, _, hb⟩
    exact ⟨⟨0, _, rfl, by unfold In64; omega, Or.inr ⟨⟨_, rfl⟩, fun v hv => by cases hv⟩⟩, hb⟩

/-- The order. -/
def cmpR (a b c d : Int) : Int := if a < c then -1 else if c < a then 1 else if b < d then -1 else if d < b then 1 else 0
theorem compare_ev (a b c d : Int) : item_Compare.f 9 a b c d = some (cmpR a b c d) := by
  have hc : ∀ x y : Int, cmp_Compare_int.f x y = some (if x < y then -1 else if y < x then 1 else 0) := by
    intro x y
    unfold cmp_Compare_int.f cmp_isNaN_int.f
    simp
    split
    · rfl
    · split <;> rfl
  unfold item_Compare.f
  rw [hc, hc]
  simp only [Option.bind_some]
  unfold cmpR
  split
  · (first | rfl | (split <;> decide +kernel) | decide +kernel | (simp only [Option.bind_some]; split <;> (first | rfl | (split <;> decide +kernel))))
  · split
    · (first | rfl | (split <;> decide +kernel) | decide +kernel | (simp only [Option.bind_some]; split <;> (first | rfl | (split <;> decide +kernel))))
    · split
      · (first | rfl | (split <;> decide +kernel) | decide +kernel | (simp only [Option.bind_some]; split <;> (first | rfl | (split <;> decide +kernel))))
      · split <;> (first | rfl | (split <;> decide +kernel) | decide +kernel | (simp only [Option.bind_some]; split <;> (first | rfl | (split <;> decide +kernel))))
theorem compare (a b c d : Int) (w : World) : Calls Tryd.prog 25 #[.agg #[.int .i64 a, .int .i64 b], .agg #[.int .i64 c, .int .i64 d]] w fun e w' => e = .returned (.int .i64 (cmpR a b c d)) ∧ Below w.heap.size w w' :=
  item_Compare.calls 9 a b c d _ w (compare_ev a b c d)
end Go.Proofs.YtddmlhcjbifkoaaDoor.Item
/- The program's Read of items, and the document's example. No conditions. -/
namespace Go.Proofs.YtddmlhcjbifkoaaDoor.Item
open Go.Lib Go.RowKit Go.Proofs.YtddmlhcjbifkoaaDoor.Mem Go.Proofs.YtddmlhcjbifkoaaDoorW.PrintWords Go.Proofs.YtddmlhcjbifkoaaDoor.PItemReads Go.Proofs.YtddmlhcjbifkoaaDoor.ItemCmp

set_option maxRecDepth 100000 in
set_option maxHeartbeats 1000000 in
theorem read (s : ByteArray) (w : World) (hs : s.size ≤ 1000000) (he : Env w) : Calls Tryd.prog 28 #[.string s] w fun e w' =>
    e = .returned (.tuple #[.agg #[.int .i64 (readR (readOf s.data.toList)).1, .int .i64 (readR (readOf s.data.toList)).2.1], .bool (readR (readOf s.data.toList)).2.2]) ∧ Below w.heap.size w w' := by
  have hu41 := Tryd.underlying41
  have HENV := Lib.hid he
  obtain ⟨wa, hwa⟩ : ∃ wa, wa = w.alloc (Obj.cells #[Value.int .i64 0, .int .i64 0] 41) := ⟨_, rfl⟩
  have HA : Hid (Below w.heap.size w wa) := by subst hwa; exact (Below.refl _ _).alloc (Nat.le_refl _) _
  have HBa : Hid (Blk wa w.heap.size #[.int .i64 0, .int .i64 0] 41) := by subst hwa; exact Blk.new _ _ _
  have HE := Lib.hid hwa
  clear hwa
  obtain ⟨m, hm⟩ := (he.step HA.out).max
  have hcut := Tryd.strings_Cut s ⟨#[35]⟩ m wa (by omega) hm
  obtain ⟨a, b, x, hc⟩ : ∃ a b x, Lib.cut s.data.toList [35] = (a, b, x) := ⟨_, _, _, rfl⟩
  have e0 : (⟨#[35]⟩ : ByteArray).data.toList = [35] := rfl
  rw [e0, hc] at hcut
  have HC : Hid (Calls Tryd.prog 54 #[.string s, .string ⟨#[35]⟩] wa fun e w' => e = .returned (.tuple #[.string (mk a), .string (mk b), .bool x]) ∧ ∃ n, w' = wa.drewN n) := Lib.hid hcut
  have lens : a.length ≤ s.size ∧ b.length ≤ s.size := by
    have hz := sz s
    unfold Lib.cut at hc
    split at hc <;> simp only [Prod.mk.injEq] at hc
    · rw [← hc.1, ← hc.2.1, List.length_take, List.length_drop]; omega
    · rw [← hc.1, ← hc.2.1]; simp
  have la : Hid ((mk a).size ≤ 1000000) := Lib.hid (by rw [mk_size]; omega)
  have lb : Hid ((mk b).size ≤ 1000000) := Lib.hid (by rw [mk_size]; omega)
  have HBAD : Hid (((∀ v, atoiAll a ≠ .ok v) ∨ (∀ v, atoiAll b ≠ .ok v)) → readOf s.data.toList = none) := Lib.hid (read_bad hc)
  have HOK : Hid (∀ v u, atoiAll a = .ok v → atoiAll b = .ok u → readOf s.data.toList = if textOf v u = s.data.toList then some (v, u) else none) := Lib.hid (fun v u h1 h2 => read_ok (Or.inr ⟨_, hc⟩) h1 h2)
  have ma : Hid ((mk a).data.toList = a) := Lib.hid (mk_toList a)
  have mb : Hid ((mk b).data.toList = b) := Lib.hid (mk_toList b)
  have HS : Hid (∀ l : List UInt8, mk l = s ↔ l = s.data.toList) := Lib.hid (fun l => ⟨fun h => by rw [← h, mk_toList], fun h => by rw [h, mk_data]⟩)
  clear hcut hc lens hm hs he e0
  generalize mk a = ta at *
  generalize mk b = tb at *
  generalize readOf s.data.toList = R at *
  obtain ⟨sl, hsl⟩ : ∃ l, l = s.data.toList := ⟨_, rfl⟩
  rw [← hsl] at HOK HS
  clear hsl
  go_enter Tryd.func28, Tryd.ntmps28
  go_wp2_with fail
  rw [← HE.out]
  refine (HC.out).mono ?_
  rintro e w1 ⟨rfl, n, hw1⟩
  have hb0 : Below wa.heap.size wa w1 := by subst hw1; exact pw_below_drewN (Below.refl _ _) _
  have HB1 : Hid (Below w.heap.size w w1) := Lib.hid (HA.out.trans (hb0.mono HA.out.size))
  have HK1 : Hid (Blk w1 w.heap.size #[.int .i64 0, .int .i64 0] 41) := Lib.hid (HBa.out.below hb0)
  clear hw1 HC hb0 HE HA HBa
  go_wp2_with fail
  refine (atoi ta _ la.out (HENV.out.step HB1.out)).mono ?_
  rintro e w2 ⟨⟨v, ev, rfl, hv, hca⟩, hb⟩
  rw [ma.out] at hca
  have HB2 : Hid (Below w.heap.size w w2) := Lib.hid (HB1.out.trans (hb.mono HB1.out.size))
  have HK2 := Lib.hid (HK1.out.below hb)
  have HCA := Lib.hid hca
  clear hb HB1 hca
  go_wp2_with fail
  refine (atoi tb _ lb.out (HENV.out.step HB2.out)).mono ?_
  rintro e w3 ⟨⟨u, eu, rfl, hu, hcb⟩, hb⟩
  rw [mb.out] at hcb
  have HB3 : Hid (Below w.heap.size w w3) := Lib.hid (HB2.out.trans (hb.mono HB2.out.size))
  have hk3 := HK2.out.below hb
  have HK3 := Lib.hid hk3
  have z0 := hk3.cell (j := 0) rfl
  have z1 := hk3.cell (j := 1) rfl
  clear hb HB2 HK1 HK2 hk3
  have hca := HCA.out
  clear HCA
  rcases hca with ⟨rfl, ha⟩ | ⟨⟨pa, rfl⟩, ha⟩
  · rcases hcb with ⟨rfl, hb⟩ | ⟨⟨pb, rfl⟩, hb⟩
    · have HR := Lib.hid (HOK.out v u ha hb)
      clear ha hb HOK HBAD
      have HT : Hid (∀ wx, Below w.heap.size w wx → Calls Tryd.prog 27 #[.agg #[.int .i64 v, .int .i64 u]] wx fun e w' => e = .returned (.string (mk (textOf v u))) ∧ Below wx.heap.size wx w') := Lib.hid (fun wx hb => text v u wx hv hu (HENV.out.step hb))
      have hS := HS.out (textOf v u)
      clear HS
      by_cases ht : textOf v u = sl
      · have hS' := hS.2 ht
        rw [hS'] at HT
        have HR' := Lib.hid (HR.out.trans (if_pos ht))
        clear hS hS' ht HR
        go_wp2_with fail
        refine (HT.out _ (by first | exact HB3.out | (repeat (first | exact HB3.out | apply below_alloc | apply pw_below_drewN | apply below_drew1)))).mono ?_
        rintro e w4 ⟨rfl, hb⟩
        have hX := (Blk.new w3 #[.int .i64 v, .int .i64 u] 41).below hb
        have hr := (HK3.out.below ((Below.refl _ _).alloc (Nat.le_refl _) (Obj.cells #[Value.int .i64 v, .int .i64 u] 41))).below hb
        have x0 : w4.cell? ⟨w3.heap.size, 0, none⟩ = some (.int .i64 v) := hX.cell (j := 0) rfl
        have x1 : w4.cell? ⟨w3.heap.size, 1, none⟩ = some (.int .i64 u) := hX.cell (j := 1) rfl
        have r0 : w4.cell? ⟨w.heap.size, 0, none⟩ = some (.int .i64 0) := hr.cell (j := 0) rfl
        have r1 : w4.cell? ⟨w.heap.size, 1, none⟩ = some (.int .i64 0) := hr.cell (j := 1) rfl
        have f0 := hr.free 0
        have f1 := hr.free 1
        have HB4 : Hid (Below w.heap.size w w4) := Lib.hid ((HB3.out.trans (((Below.refl _ _).alloc (Nat.le_refl _) _).mono HB3.out.size)).trans (hb.mono (HB3.out.alloc (HB3.out.size) _).size))
        have HRB := Lib.hid hr
        clear hb hX hr z0 z1 HK3 HB3
        go_wp2
        refine bodyPost_ret (results_ct rfl _ _ w.heap.size 41 #[.int .i64 v, .int .i64 u] (0, 0) _ rfl (((HRB.out).set 0 (.int .i64 v)).set 1 (.int .i64 u)) Tryd.underlying41 rfl (by kernel_rfl)) rfl ?_
        exact ⟨by rw [HR'.out]; rfl, ((HB4.out).setCell (Nat.le_refl _) _).setCell (Nat.le_refl _) _⟩
      · have hne : ((mk (textOf v u)).toList == s.toList) = false := beq_eq_false_iff_ne.2 (fun h => ht (hS.1 (toList_inj.1 h)))
        have HR' := Lib.hid (HR.out.trans (if_neg ht))
        generalize mk (textOf v u) = tt at *
        clear hS ht HR
        go_wp2_with fail
        refine (HT.out _ (by first | exact HB3.out | (repeat (first | exact HB3.out | apply below_alloc | apply pw_below_drewN | apply below_drew1)))).mono ?_
        rintro e w4 ⟨rfl, hb⟩
        have hX := (Blk.new w3 #[.int .i64 v, .int .i64 u] 41).below hb
        have hr := (HK3.out.below ((Below.refl _ _).alloc (Nat.le_refl _) (Obj.cells #[Value.int .i64 v, .int .i64 u] 41))).below hb
        have x0 : w4.cell? ⟨w3.heap.size, 0, none⟩ = some (.int .i64 v) := hX.cell (j := 0) rfl
        have x1 : w4.cell? ⟨w3.heap.size, 1, none⟩ = some (.int .i64 u) := hX.cell (j := 1) rfl
        have r0 : w4.cell? ⟨w.heap.size, 0, none⟩ = some (.int .i64 0) := hr.cell (j := 0) rfl
        have r1 : w4.cell? ⟨w.heap.size, 1, none⟩ = some (.int .i64 0) := hr.cell (j := 1) rfl
        have f0 := hr.free 0
        have f1 := hr.free 1
        have HB4 : Hid (Below w.heap.size w w4) := Lib.hid ((HB3.out.trans (((Below.refl _ _).alloc (Nat.le_refl _) _).mono HB3.out.size)).trans (hb.mono (HB3.out.alloc (HB3.out.size) _).size))
        have HRB := Lib.hid hr
        clear hb hX hr z0 z1 HK3 HB3
        go_wp2
        refine bodyPost_ret (results_ct rfl _ _ w.heap.size 41 #[.int .i64 0, .int .i64 0] (0, 0) _ rfl (((HRB.out).set 0 (.int .i64 0)).set 1 (.int .i64 0)) Tryd.underlying41 rfl (by kernel_rfl)) rfl ?_
        exact ⟨by rw [HR'.out]; rfl, ((HB4.out).setCell (Nat.le_refl _) _).setCell (Nat.le_refl _) _⟩
    · have HR := Lib.hid (HBAD.out (Or.inr hb))
      clear ha hb HOK HBAD HS
      have hka := HK3.out.alloc (Obj.cells #[Value.int .i64 v, Value.int .i64 u] 41)
      have y0 : (w3.alloc (Obj.cells #[Value.int .i64 v, Value.int .i64 u] 41)).cell? ⟨w.heap.size, 0, none⟩ = some (.int .i64 0) := hka.cell (j := 0) rfl
      have y1 : (w3.alloc (Obj.cells #[Value.int .i64 v, Value.int .i64 u] 41)).cell? ⟨w.heap.size, 1, none⟩ = some (.int .i64 0) := hka.cell (j := 1) rfl
      have f0 := hka.free 0
      have f1 := hka.free 1
      have HRB := Lib.hid hka
      have HB4 : Hid (Below w.heap.size w (w3.alloc (Obj.cells #[Value.int .i64 v, Value.int .i64 u] 41))) := Lib.hid (HB3.out.alloc (HB3.out.size) _)
      clear hka HB3 HK3
      go_wp2
      refine bodyPost_ret (results_ct rfl _ _ w.heap.size 41 #[.int .i64 0, .int .i64 0] (0, 0) _ rfl (((HRB.out).set 0 (.int .i64 0)).set 1 (.int .i64 0)) Tryd.underlying41 rfl (by kernel_rfl)) rfl ?_
      exact ⟨by rw [HR.out]; rfl, ((HB4.out).setCell (Nat.le_refl _) _).setCell (Nat.le_refl _) _⟩
  · have HR := Lib.hid (HBAD.out (Or.inl ha))
    clear ha HOK HBAD HS
    rcases hcb with ⟨rfl, hb⟩ | ⟨⟨pb, rfl⟩, hb⟩
    · clear hb
      have hka := HK3.out.alloc (Obj.cells #[Value.int .i64 v, Value.int .i64 u] 41)
      have y0 : (w3.alloc (Obj.cells #[Value.int .i64 v, Value.int .i64 u] 41)).cell? ⟨w.heap.size, 0, none⟩ = some (.int .i64 0) := hka.cell (j := 0) rfl
      have y1 : (w3.alloc (Obj.cells #[Value.int .i64 v, Value.int .i64 u] 41)).cell? ⟨w.heap.size, 1, none⟩ = some (.int .i64 0) := hka.cell (j := 1) rfl
      have f0 := hka.free 0
      have f1 := hka.free 1
      have HRB := Lib.hid hka
      have HB4 : Hid (Below w.heap.size w (w3.alloc (Obj.cells #[Value.int .i64 v, Value.int .i64 u] 41))) := Lib.hid (HB3.out.alloc (HB3.out.size) _)
      clear hka HB3 HK3
      go_wp2
      refine bodyPost_ret (results_ct rfl _ _ w.heap.size 41 #[.int .i64 0, .int .i64 0] (0, 0) _ rfl (((HRB.out).set 0 (.int .i64 0)).set 1 (.int .i64 0)) Tryd.underlying41 rfl (by kernel_rfl)) rfl ?_
      exact ⟨by rw [HR.out]; rfl, ((HB4.out).setCell (Nat.le_refl _) _).setCell (Nat.le_refl _) _⟩
    · clear hb
      have hka := HK3.out.alloc (Obj.cells #[Value.int .i64 v, Value.int .i64 u] 41)
      have y0 : (w3.alloc (Obj.cells #[Value.int .i64 v, Value.int .i64 u] 41)).cell? ⟨w.heap.size, 0, none⟩ = some (.int .i64 0) := hka.cell (j := 0) rfl
      have y1 : (w3.alloc (Obj.cells #[Value.int .i64 v, Value.int .i64 u] 41)).cell? ⟨w.heap.size, 1, none⟩ = some (.int .i64 0) := hka.cell (j := 1) rfl
      have f0 := hka.free 0
      have f1 := hka.free 1
      have HRB := Lib.hid hka
      have HB4 : Hid (Below w.heap.size w (w3.alloc (Obj.cells #[Value.int .i64 v, Value.int .i64 u] 41))) := Lib.hid (HB3.out.alloc (HB3.out.size) _)
      clear hka HB3 HK3
      go_wp2
      refine bodyPost_ret (results_ct rfl _ _ w.heap.size 41 #[.int .i64 0, .int .i64 0] (0, 0) _ rfl (((HRB.out).set 0 (.int .i64 0)).set 1 (.int .i64 0)) Tryd.underlying41 rfl (by kernel_rfl)) rfl ?_
      exact ⟨by rw [HR.out]; rfl, ((HB4.out).setCell (Nat.le_refl _) _).setCell (Nat.le_refl _) _⟩

/-- The document's example. -/
def s52 : ByteArray := ⟨#[45, 53, 35, 50]⟩
theorem s52_read : readR (readOf s52.data.toList) = (-5, 2, true) := by decide +kernel
theorem s52_text : mk (textOf (-5) 2) = s52 := by
  unfold textOf
  rw [show (-5 : Int) = -((5 : Nat) : Int) from rfl, itoa_neg 5 (by omega), show (2 : Int) = ((2 : Nat) : Int) from rfl, itoa_nonneg, dec_small (by omega), dec_small (by omega)]
  rfl
set_option maxRecDepth 100000 in
set_option maxHeartbeats 1000000 in
theorem awake (w : World) (he : Env w) : Calls Tryd.prog 24 #[] w fun e w' => e = .returned (.bool true) ∧ Below w.heap.size w w' := by
  have hu41 := Tryd.underlying41
  have CR : Hid (∀ w1, Below w.heap.size w w1 → Calls Tryd.prog 28 #[.string ⟨#[45, 53, 35, 50]⟩] w1 fun e w' => e = .returned (.tuple #[.agg #[.int .i64 (-5), .int .i64 2], .bool true]) ∧ Below w1.heap.size w1 w') := Lib.hid (fun w1 hb => by
    have := read s52 w1 (by decide) (he.step hb)
    rw [s52_read] at this
    exact this)
  have CT : Hid (∀ w1, Below w.heap.size w w1 → Calls Tryd.prog 27 #[.agg #[.int .i64 (-5), .int .i64 2]] w1 fun e w' => e = .returned (.string ⟨#[45, 53, 35, 50]⟩) ∧ Below w1.heap.size w1 w') := Lib.hid (fun w1 hb => by
    have := text (-5) 2 w1 (by unfold In64; omega) (by unfold In64; omega) (he.step hb)
    rw [s52_text] at this
    exact this)
  have CC : Hid (∀ w1, Calls Tryd.prog 25 #[.agg #[.int .i64 (-5), .int .i64 2], .agg #[.int .i64 0, .int .i64 0]] w1 fun e w' => e = .returned (.int .i64 (-1)) ∧ Below w1.heap.size w1 w') := Lib.hid (fun w1 => compare (-5) 2 0 0 w1)
  clear he
  obtain ⟨wa, hwa⟩ : ∃ wa, wa = w.alloc (Obj.cells #[Value.int .i64 (-5), .int .i64 2] 41) := ⟨_, rfl⟩
  have HA : Hid (Below w.heap.size w wa) := by subst hwa; exact (Below.refl _ _).alloc (Nat.le_refl _) _
  have HBa : Hid (Blk wa w.heap.size #[.int .i64 (-5), .int .i64 2] 41) := by subst hwa; exact Blk.new _ _ _
  have HE := Lib.hid hwa
  clear hwa
  go_enter Tryd.func24, Tryd.ntmps24
  go_wp2_with fail
  rw [← HE.out]
  refine (CR.out _ HA.out).mono ?_
  rintro e w1 ⟨rfl, hb⟩
  have HX1 := Lib.hid (HBa.out.below hb)
  have HB1 : Hid (Below w.heap.size w w1) := Lib.hid (HA.out.trans (hb.mono HA.out.size))
  clear hb HE HBa HA
  have hka := HX1.out.alloc (Obj.cells #[Value.int .i64 (-5), Value.int .i64 2] 41)
  have hya : Blk (w1.alloc (Obj.cells #[Value.int .i64 (-5), Value.int .i64 2] 41)) w1.heap.size #[.int .i64 (-5), .int .i64 2] 41 := Blk.new _ _ _
  have x0 : (w1.alloc (Obj.cells #[Value.int .i64 (-5), Value.int .i64 2] 41)).cell? ⟨w.heap.size, 0, none⟩ = some (.int .i64 (-5)) := hka.cell (j := 0) rfl
  have x1 : (w1.alloc (Obj.cells #[Value.int .i64 (-5), Value.int .i64 2] 41)).cell? ⟨w.heap.size, 1, none⟩ = some (.int .i64 2) := hka.cell (j := 1) rfl
  have HBB : Hid (Below w.heap.size w (w1.alloc (Obj.cells #[Value.int .i64 (-5), Value.int .i64 2] 41))) := Lib.hid (HB1.out.alloc (HB1.out.size) _)
  have HK := Lib.hid hka
  have HY := Lib.hid hya
  clear hka hya
  go_wp2_with fail
  refine (CT.out _ HBB.out).mono ?_
  rintro e w2 ⟨rfl, hb⟩
  have hx := HK.out.below hb
  have hy := HY.out.below hb
  have xx0 : w2.cell? ⟨w.heap.size, 0, none⟩ = some (.int .i64 (-5)) := hx.cell (j := 0) rfl
  have xx1 : w2.cell? ⟨w.heap.size, 1, none⟩ = some (.int .i64 2) := hx.cell (j := 1) rfl
  have yy0 : w2.cell? ⟨w1.heap.size, 0, none⟩ = some (.int .i64 (-5)) := hy.cell (j := 0) rfl
  have yy1 : w2.cell? ⟨w1.heap.size, 1, none⟩ = some (.int .i64 2) := hy.cell (j := 1) rfl
  have HB2 : Hid (Below w.heap.size w w2) := Lib.hid (HBB.out.trans (hb.mono HBB.out.size))
  clear hb hx hy HK HY HBB x0 x1 HX1
  go_wp2_with fail
  refine (CC.out _).mono ?_
  rintro e w3 ⟨rfl, hb⟩
  have HB3 : Hid (Below w.heap.size w w3) := Lib.hid (HB2.out.trans (hb.mono HB2.out.size))
  clear hb
  go_wp2
  go_ret
  exact ⟨rfl, HB3.out⟩
end Go.Proofs.YtddmlhcjbifkoaaDoor.Item
/- The laws of items: texts and readings. No conditions. -/
namespace Go.Proofs.YtddmlhcjbifkoaaDoor.Item
open Go.Lib Go.RowKit Go.Proofs.YtddmlhcjbifkoaaDoor.Mem Go.Proofs.YtddmlhcjbifkoaaDoorW.PrintWords Go.Proofs.YtddmlhcjbifkoaaDoor.PItemReads Go.Proofs.YtddmlhcjbifkoaaDoor.ItemCmp

set_option maxRecDepth 100000 in
set_option maxHeartbeats 1000000 in
theorem law_texts (k i : Int) (w : World) (hk : In64 k) (hi : In64 i) (he : Env w) :
    Calls Tryd.prog 8 #[.agg #[.int .i64 k, .int .i64 i]] w fun e w' => e = .returned (.bool true) ∧ Below w.heap.size w w' := by
  have hu41 := Tryd.underlying41
  have HAW : Hid (∀ w1, Below w.heap.size w w1 → Calls Tryd.prog 24 #[] w1 fun e w' => e = .returned (.bool true) ∧ Below w1.heap.size w1 w') := Lib.hid (fun w1 hb => awake w1 (he.step hb))
  obtain ⟨t, ht⟩ : ∃ t, t = mk (textOf k i) := ⟨_, rfl⟩
  have hl : t.size ≤ 1000000 := by
    rw [ht, mk_size]; unfold textOf
    have h1 := itoa_len hk; have h2 := itoa_len hi
    simp; omega
  have CT : Hid (∀ w1, Below w.heap.size w w1 → Calls Tryd.prog 27 #[.agg #[.int .i64 k, .int .i64 i]] w1 fun e w' => e = .returned (.string t) ∧ Below w1.heap.size w1 w') := Lib.hid (fun w1 hb => by rw [ht]; exact text k i w1 hk hi (he.step hb))
  have CF : Hid (∀ w1, Calls Tryd.prog 29 #[.agg #[.int .i64 k, .int .i64 i]] w1 fun e w' => e = .returned (.string t) ∧ Below w1.heap.size w1 w') := Lib.hid (fun w1 => by rw [ht]; exact refText k i w1 hk hi)
  have CR : Hid (∀ w1, Below w.heap.size w w1 → Calls Tryd.prog 28 #[.string t] w1 fun e w' => e = .returned (.tuple #[.agg #[.int .i64 k, .int .i64 i], .bool true]) ∧ Below w1.heap.size w1 w') := Lib.hid (fun w1 hb => by
    have := read t w1 hl (he.step hb)
    rw [ht, mk_toList, readOf_text hk hi, ← ht] at this
    exact this)
  clear he hk hi ht hl
  obtain ⟨wa, hwa⟩ : ∃ wa, wa = w.alloc (Obj.cells #[Value.int .i64 k, .int .i64 i] 41) := ⟨_, rfl⟩
  have HA : Hid (Below w.heap.size w wa) := by subst hwa; exact (Below.refl _ _).alloc (Nat.le_refl _) _
  have HBa : Hid (Blk wa w.heap.size #[.int .i64 k, .int .i64 i] 41) := by subst hwa; exact Blk.new _ _ _
  have HE := Lib.hid hwa
  clear hwa
  go_enter Tryd.func8, Tryd.ntmps8
  go_wp2_with fail
  rw [← HE.out]
  refine (HAW.out _ HA.out).mono ?_
  rintro e w1 ⟨rfl, hb⟩
  have HX1 := Lib.hid (HBa.out.below hb)
  have HB1 : Hid (Below w.heap.size w w1) := Lib.hid (HA.out.trans (hb.mono HA.out.size))
  clear hb HE HBa HA
  have x0 : w1.cell? ⟨w.heap.size, 0, none⟩ = some (.int .i64 k) := HX1.out.cell (j := 0) rfl
  have x1 : w1.cell? ⟨w.heap.size, 1, none⟩ = some (.int .i64 i) := HX1.out.cell (j := 1) rfl
  go_wp2_with fail
  refine (CT.out _ HB1.out).mono ?_
  rintro e w2 ⟨rfl, hb⟩
  have HX2 := Lib.hid (HX1.out.below hb)
  have HB2 : Hid (Below w.heap.size w w2) := Lib.hid (HB1.out.trans (hb.mono HB1.out.size))
  clear hb HX1 HB1 x0 x1
  go_wp2_with fail
  refine (CR.out _ HB2.out).mono ?_
  rintro e w3 ⟨rfl, hb⟩
  have hx3 := HX2.out.below hb
  have HB3 : Hid (Below w.heap.size w w3) := Lib.hid (HB2.out.trans (hb.mono HB2.out.size))
  have hka := hx3.alloc (Obj.cells #[Value.int .i64 k, Value.int .i64 i] 41)
  have hya : Blk (w3.alloc (Obj.cells #[Value.int .i64 k, Value.int .i64 i] 41)) w3.heap.size #[.int .i64 k, .int .i64 i] 41 := Blk.new _ _ _
  have x0 : (w3.alloc (Obj.cells #[Value.int .i64 k, Value.int .i64 i] 41)).cell? ⟨w.heap.size, 0, none⟩ = some (.int .i64 k) := hka.cell (j := 0) rfl
  have x1 : (w3.alloc (Obj.cells #[Value.int .i64 k, Value.int .i64 i] 41)).cell? ⟨w.heap.size, 1, none⟩ = some (.int .i64 i) := hka.cell (j := 1) rfl
  have HK := Lib.hid hka
  have HY := Lib.hid hya
  have HB4 : Hid (Below w.heap.size w (w3.alloc (Obj.cells #[Value.int .i64 k, Value.int .i64 i] 41))) := Lib.hid (HB3.out.alloc (HB3.out.size) _)
  clear hb hx3 hka hya HB2 HX2
  go_wp2_with fail
  refine (CF.out _).mono ?_
  rintro e w5 ⟨rfl, hb⟩
  have hx := HK.out.below hb
  have hy := HY.out.below hb
  have xx0 : w5.cell? ⟨w.heap.size, 0, none⟩ = some (.int .i64 k) := hx.cell (j := 0) rfl
  have xx1 : w5.cell? ⟨w.heap.size, 1, none⟩ = some (.int .i64 i) := hx.cell (j := 1) rfl
  have yy0 : w5.cell? ⟨w3.heap.size, 0, none⟩ = some (.int .i64 k) := hy.cell (j := 0) rfl
  have yy1 : w5.cell? ⟨w3.heap.size, 1, none⟩ = some (.int .i64 i) := hy.cell (j := 1) rfl
  have HB5 : Hid (Below w.heap.size w w5) := Lib.hid (HB4.out.trans (hb.mono HB4.out.size))
  clear hb hx hy HK HY HB4 HB3 x0 x1
  go_wp2
  go_ret
  exact ⟨by simp, HB5.out⟩

set_option maxRecDepth 100000 in
set_option maxHeartbeats 1000000 in
theorem law_reads (s : ByteArray) (w : World) (he : Env w) :
    Calls Tryd.prog 9 #[.string s] w fun e w' => e = .returned (.bool true) ∧ Below w.heap.size w w' := by
  have hu41 := Tryd.underlying41
  have HAW : Hid (∀ w1, Below w.heap.size w w1 → Calls Tryd.prog 24 #[] w1 fun e w' => e = .returned (.bool true) ∧ Below w1.heap.size w1 w') := Lib.hid (fun w1 hb => awake w1 (he.step hb))
  by_cases hbig : 200 < s.size
  · have hz : (200 : Int) < (s.size : Int) := by omega
    clear hbig
    go_enter Tryd.func9, Tryd.ntmps9
    go_wp2_with fail
    refine (HAW.out _ (Below.refl _ _)).mono ?_
    rintro e w1 ⟨rfl, hb1⟩
    have HB1 := Lib.hid hb1; clear hb1
    go_wp2_with fail
    refine (HAW.out _ HB1.out).mono ?_
    rintro e w2 ⟨rfl, hb2⟩
    have HB2 := Lib.hid hb2; clear hb2
    go_wp2_with fail
    go_ret
    exact ⟨rfl, HB1.out.trans (HB2.out.mono HB1.out.size)⟩
  · have hz : ¬ (200 : Int) < (s.size : Int) := by omega
    have hl : s.size ≤ 1000000 := by omega
    obtain ⟨p, q, o, hR⟩ : ∃ p q o, readR (readOf s.data.toList) = (p, q, o) := ⟨_, _, _, rfl⟩
    have CR : Hid (∀ w1, Below w.heap.size w w1 → Calls Tryd.prog 28 #[.string s] w1 fun e w' => e = .returned (.tuple #[.agg #[.int .i64 p, .int .i64 q], .bool o]) ∧ Below w1.heap.size w1 w') := Lib.hid (fun w1 hb => by
      have := read s w1 hl (he.step hb)
      rw [hR] at this
      exact this)
    have CF : Hid (∀ w1, Calls Tryd.prog 30 #[.string s] w1 fun e w' => e = .returned (.tuple #[.agg #[.int .i64 p, .int .i64 q], .bool o]) ∧ Below w1.heap.size w1 w') := Lib.hid (fun w1 => whilomref02_Read.calls (s.size + 101) s p q o w1 (by rw [read_ev s hl (Nat.le_refl _), hR]))
    clear he hR hl hbig
    go_enter Tryd.func9, Tryd.ntmps9
    go_wp2_with fail
    refine (HAW.out _ (Below.refl _ _)).mono ?_
    rintro e w1 ⟨rfl, hb1⟩
    have HB1 := Lib.hid hb1; clear hb1
    go_wp2_with fail
    refine (CR.out _ HB1.out).mono ?_
    rintro e w2 ⟨rfl, hb⟩
    have HB2 : Hid (Below w.heap.size w w2) := Lib.hid (HB1.out.trans (hb.mono HB1.out.size))
    have HK2 : Hid (Blk (w2.alloc (Obj.cells #[Value.int .i64 p, Value.int .i64 q] 41)) w2.heap.size #[.int .i64 p, .int .i64 q] 41) := Lib.hid (Blk.new _ _ _)
    have HB3 : Hid (Below w.heap.size w (w2.alloc (Obj.cells #[Value.int .i64 p, Value.int .i64 q] 41))) := Lib.hid (HB2.out.alloc (HB2.out.size) _)
    clear hb HB1
    go_wp2_with fail
    refine (CF.out _).mono ?_
    rintro e w4 ⟨rfl, hb⟩
    have hx := HK2.out.below hb
    have hka := hx.alloc (Obj.cells #[Value.int .i64 p, Value.int .i64 q] 41)
    have x0 : (w4.alloc (Obj.cells #[Value.int .i64 p, Value.int .i64 q] 41)).cell? ⟨w2.heap.size, 0, none⟩ = some (.int .i64 p) := hka.cell (j := 0) rfl
    have x1 : (w4.alloc (Obj.cells #[Value.int .i64 p, Value.int .i64 q] 41)).cell? ⟨w2.heap.size, 1, none⟩ = some (.int .i64 q) := hka.cell (j := 1) rfl
    have HB4 : Hid (Below w.heap.size w w4) := Lib.hid (HB3.out.trans (hb.mono HB3.out.size))
    clear hb hx hka HK2 HB3 HB2
    go_wp2
    go_ret
    exact ⟨by simp, HB4.out.alloc (HB4.out.size) _⟩
end Go.Proofs.YtddmlhcjbifkoaaDoor.Item
