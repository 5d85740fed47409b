/- The document's words on items' texts answer as the numbers' laws say. No conditions. -/
import Derived.Test.YtddmlhcjbifkoaaDoorItem1
import Derived.Test.YtddmlhcjbifkoaaDoorPItemReadsx4
import Derived.IntWalk
namespace Go.Proofs.YtddmlhcjbifkoaaDoor.Item
open Go.Lib Go.RowKit Go.Proofs.YtddmlhcjbifkoaaDoorW.PrintWords Go.Proofs.YtddmlhcjbifkoaaDoor.PItemReads

def mk (l : List UInt8) : ByteArray := ⟨l.toArray⟩
theorem mk_size (l : List UInt8) : (mk l).size = l.length := by simp [mk, ByteArray.size]
theorem mk_toList (l : List UInt8) : (mk l).data.toList = l := by simp [mk]
theorem mk_data (s : ByteArray) : mk s.data.toList = s := by simp [mk]
theorem mk_inj {a b : List UInt8} : mk a = mk b ↔ a = b := ⟨fun h => by rw [← mk_toList a, h, mk_toList], fun h => by rw [h]⟩
theorem mk_append (a b : List UInt8) : mk a ++ mk b = mk (a ++ b) := by
  apply ByteArray.ext
  apply Array.ext'
  simp [mk, ByteArray.data_append]
theorem toList_inj {a b : ByteArray} : a.toList = b.toList ↔ a = b := by
  rw [ByteArray.toList_eq, ByteArray.toList_eq]
  exact ⟨fun h => by rw [← mk_data a, h, mk_data], fun h => by rw [h]⟩
theorem bt_is (s : ByteArray) (i : Nat) (c : UInt8) (h : s.data.toList[i]? = some c) : bt s (i : Int) = (c.toNat : Int) := by
  have hi : i < s.size := by have := (List.getElem?_eq_some_iff.1 h).1; simpa using this
  unfold bt
  rw [Int.toNat_natCast, dif_pos hi]
  have : s[i] = c := by
    have h2 := (List.getElem?_eq_some_iff.1 h).2
    rw [← h2]; simp; rfl
  rw [this]
theorem wrap64_in (n : Int) (h : -9223372036854775808 ≤ n ∧ n ≤ 9223372036854775807) : wrap64 n = n := by unfold wrap64; omega
theorem itoa_zero : itoa 0 = [48] := by
  rw [show (0 : Int) = ((0 : Nat) : Int) from rfl, itoa_nonneg, dec_small (by omega)]; rfl
theorem sz (s : ByteArray) : s.data.toList.length = s.size := by simp

theorem digit {d : Nat} (h : d < 10) : strOfNums [(wrap64 (48 + (d : Int))) % 256] = mk [UInt8.ofNat (48 + d)] := by
  rw [wrap64_in _ (by omega)]
  have e : (48 + (d : Int)) % 256 = ((48 + d : Nat) : Int) := by omega
  rw [e]
  rcases (by omega : d = 0 ∨ d = 1 ∨ d = 2 ∨ d = 3 ∨ d = 4 ∨ d = 5 ∨ d = 6 ∨ d = 7 ∨ d = 8 ∨ d = 9) with rfl | rfl | rfl | rfl | rfl | rfl | rfl | rfl | rfl | rfl <;> rfl

theorem tdiv_nat (u : Nat) : Int.tdiv (u : Int) 10 = ((u / 10 : Nat) : Int) := rfl
theorem tmod_nat (u : Nat) : Int.tmod (u : Int) 10 = ((u % 10 : Nat) : Int) := rfl
theorem tdiv_neg (u : Nat) : Int.tdiv (-(u : Int)) 10 = -((u / 10 : Nat) : Int) := by rw [Int.neg_tdiv]; rfl
theorem tmod_neg (u : Nat) : Int.tmod (-(u : Int)) 10 = -((u % 10 : Nat) : Int) := by rw [Int.neg_tmod]; rfl

theorem number_pos (x0 : Int) (hx : ¬ x0 < 0) (u : Nat) : ∀ (acc : List UInt8) (k : Nat), 0 < u → u < 9223372036854775808 → acc.length + nDigits u ≤ 1000 → nDigits u + 1 ≤ k →
    whilomref02_Number.l0 k x0 (mk acc) (u : Int) = some (mk (decDigits u ++ acc)) := by
  induction u using Nat.strongRecOn with
  | _ u ih =>
    intro acc k h0 hu hl hk
    obtain ⟨k, rfl⟩ : ∃ j, k = j + 1 := ⟨k - 1, by omega⟩
    rw [whilomref02_Number.l0, if_neg (by omega), tmod_nat, if_neg (by omega), tdiv_nat, wrap64_in (((u / 10 : Nat)) : Int) (by omega)]
    simp only [Option.bind_some]
    rw [digit (Nat.mod_lt u (by omega)), mk_append, if_pos (by rw [mk_size, mk_size]; simp; omega)]
    by_cases h : u < 10
    · have e : u / 10 = 0 := by omega
      have := nDigits_pos u
      obtain ⟨k, rfl⟩ : ∃ j, k = j + 1 := ⟨k - 1, by omega⟩
      rw [e, whilomref02_Number.l0, if_pos (by omega), if_neg hx, dec_small h, Nat.mod_eq_of_lt h]
    · rw [nDigits_big h] at hl hk
      rw [ih (u / 10) (by omega) _ k (by omega) (by omega) (by simp; omega) (by omega), dec_big h, List.append_assoc]

theorem number_neg (x0 : Int) (hx : x0 < 0) (u : Nat) : ∀ (acc : List UInt8) (k : Nat), 0 < u → u ≤ 9223372036854775808 → acc.length + nDigits u ≤ 1000 → nDigits u + 1 ≤ k →
    whilomref02_Number.l0 k x0 (mk acc) (-(u : Int)) = some (mk (45 :: (decDigits u ++ acc))) := by
  induction u using Nat.strongRecOn with
  | _ u ih =>
    intro acc k h0 hu hl hk
    obtain ⟨k, rfl⟩ : ∃ j, k = j + 1 := ⟨k - 1, by omega⟩
    have body : (if (strOfNums [(wrap64 (48 + ((u % 10 : Nat) : Int))) % 256]).size + (mk acc).size ≤ 9223372036854775807 then whilomref02_Number.l0 k x0 (strOfNums [(wrap64 (48 + ((u % 10 : Nat) : Int))) % 256] ++ mk acc) (wrap64 (-((u / 10 : Nat) : Int))) else none) = some (mk (45 :: (decDigits u ++ acc))) := by
      rw [digit (Nat.mod_lt u (by omega)), mk_append, if_pos (by rw [mk_size, mk_size]; simp; omega), wrap64_in (-((u / 10 : Nat) : Int)) (by omega)]
      by_cases h : u < 10
      · have e : u / 10 = 0 := by omega
        have := nDigits_pos u
        obtain ⟨k, rfl⟩ : ∃ j, k = j + 1 := ⟨k - 1, by omega⟩
        rw [e, whilomref02_Number.l0, if_pos (by omega), if_pos hx, if_pos (by rw [mk_size]; simp; omega), show (⟨#[45]⟩ : ByteArray) = mk [45] from rfl, mk_append, dec_small h, Nat.mod_eq_of_lt h]
        rfl
      · rw [nDigits_big h] at hl hk
        rw [ih (u / 10) (by omega) _ k (by omega) (by omega) (by simp; omega) (by omega), dec_big h, List.append_assoc]
    rw [whilomref02_Number.l0, if_neg (by omega), tmod_neg, tdiv_neg]
    simp only [Option.bind_some]
    split
    · rw [Int.neg_neg, wrap64_in ((u % 10 : Nat) : Int) (by omega)]
      exact body
    · have e : u % 10 = 0 := by omega
      rw [e] at body ⊢
      exact body

theorem number_ev {n : Int} (h : In64 n) {k : Nat} (hk : 30 ≤ k) : whilomref02_Number.f k n = some (mk (itoa n)) := by
  obtain ⟨h0, h1⟩ := h
  unfold whilomref02_Number.f
  by_cases hz : n = 0
  · subst hz; rw [if_pos rfl, itoa_zero]; rfl
  · rw [if_neg hz, show (⟨#[]⟩ : ByteArray) = mk [] from rfl]
    by_cases hneg : n < 0
    · obtain ⟨u, rfl⟩ : ∃ u : Nat, n = -(u : Int) := ⟨n.natAbs, by omega⟩
      have := nDigits_le 18 u (by omega)
      rw [number_neg _ hneg u [] k (by omega) (by omega) (by simp; omega) (by omega), itoa_neg u (by omega), List.append_nil]
    · obtain ⟨u, rfl⟩ : ∃ u : Nat, n = u := ⟨n.toNat, by omega⟩
      have := nDigits_le 18 u (by omega)
      rw [number_pos _ hneg u [] k (by omega) (by omega) (by simp; omega) (by omega), itoa_nonneg, List.append_nil]

/-! ### Value -/
def stepN (neg : Bool) (acc : Int) (c : UInt8) : Int :=
  wrap64 (wrap64 (acc * 10) + (if neg = true then wrap64 (-(wrap64 (wrap64 (c.toNat : Int) - 48))) else wrap64 (wrap64 (c.toNat : Int) - 48)))
theorem wrap_in (n : Int) : In64 (wrap64 n) := by unfold wrap64 In64; omega
theorem fold_in (neg : Bool) : ∀ (l : List UInt8) (acc : Int), In64 acc → In64 (l.foldl (stepN neg) acc)
  | [], _, h => h
  | _ :: l, _, _ => fold_in neg l _ (wrap_in _)
theorem step_pos {a : Int} {d : Nat} (h0 : 0 ≤ a) (hd : d < 10) (h1 : a * 10 + d ≤ 9223372036854775807) : stepN false a (UInt8.ofNat (48 + d)) = a * 10 + d := by
  unfold stepN
  rw [ofNat_toNat (by omega), if_neg (by decide)]
  have e1 : wrap64 ((48 + d : Nat) : Int) = 48 + d := by rw [wrap64_in _ (by omega)]; omega
  have e2 : wrap64 ((48 : Int) + d - 48) = d := by rw [wrap64_in _ (by omega)]; omega
  have e3 : wrap64 (a * 10) = a * 10 := wrap64_in _ (by omega)
  rw [e1, e2, e3]
  exact wrap64_in _ (by omega)
theorem step_neg {a : Int} {d : Nat} (h0 : a ≤ 0) (hd : d < 10) (h1 : -9223372036854775808 ≤ a * 10 - d) : stepN true a (UInt8.ofNat (48 + d)) = a * 10 - d := by
  unfold stepN
  rw [ofNat_toNat (by omega), if_pos rfl]
  have e1 : wrap64 ((48 + d : Nat) : Int) = 48 + d := by rw [wrap64_in _ (by omega)]; omega
  have e2 : wrap64 ((48 : Int) + d - 48) = d := by rw [wrap64_in _ (by omega)]; omega
  have e3 : wrap64 (a * 10) = a * 10 := wrap64_in _ (by omega)
  have e4 : wrap64 (-(d : Int)) = -(d : Int) := wrap64_in _ (by omega)
  rw [e1, e2, e3, e4]
  have e5 := wrap64_in (a * 10 + -(d : Int)) (by omega)
  rw [e5]; omega
theorem fold_pos (u : Nat) : u < 9223372036854775808 → (decDigits u).foldl (stepN false) 0 = (u : Int) := by
  induction u using Nat.strongRecOn with
  | _ u ih =>
    intro hu
    by_cases h : u < 10
    · rw [dec_small h, List.foldl_cons, List.foldl_nil, step_pos (by omega) h (by omega)]; omega
    · rw [dec_big h, List.foldl_append, ih (u / 10) (by omega) (by omega), List.foldl_cons, List.foldl_nil, step_pos (by omega) (by omega) (by omega)]; omega
theorem fold_neg (u : Nat) : u ≤ 9223372036854775808 → (decDigits u).foldl (stepN true) 0 = -(u : Int) := by
  induction u using Nat.strongRecOn with
  | _ u ih =>
    intro hu
    by_cases h : u < 10
    · rw [dec_small h, List.foldl_cons, List.foldl_nil, step_neg (by omega) h (by omega)]; omega
    · rw [dec_big h, List.foldl_append, ih (u / 10) (by omega) (by omega), List.foldl_cons, List.foldl_nil, step_neg (by omega) (by omega) (by omega)]; omega

theorem value_go (s : ByteArray) (hs : s.size ≤ 20) (neg : Bool) (hneg : bt s 0 = 45 ↔ neg = true) : ∀ (n i : Nat) (acc : Int), i + n = s.size → (0 < i ∨ neg = false) → In64 acc → ∀ k, 2 * n + 31 ≤ k →
    whilomref02_Value.l0 k s acc (i : Int) = if mk (itoa ((s.data.toList.drop i).foldl (stepN neg) acc)) = s then some ((s.data.toList.drop i).foldl (stepN neg) acc, true) else some (0, false) := by
  intro n
  induction n with
  | zero =>
    intro i acc hi _ ha k hk
    obtain ⟨k, rfl⟩ : ∃ j, k = j + 1 := ⟨k - 1, by omega⟩
    rw [whilomref02_Value.l0, if_neg (by omega), number_ev ha (by omega), List.drop_eq_nil_of_le (by rw [sz]; omega)]
    rw [Option.bind_some, List.foldl_nil]
    by_cases h : mk (itoa acc) = s
    · rw [if_pos (toList_inj.2 h), if_pos h]
    · rw [if_neg (fun e => h (toList_inj.1 e)), if_neg h]
  | succ n ih =>
    intro i acc hi hpos ha k hk
    obtain ⟨k, rfl⟩ : ∃ j, k = j + 2 := ⟨k - 2, by omega⟩
    have hlt : i < s.data.toList.length := by rw [sz]; omega
    have hb := bt_is s i _ (List.getElem?_eq_getElem hlt)
    have hup : wrap64 ((i : Int) + 1) = ((i + 1 : Nat) : Int) := by unfold wrap64; omega
    have next := ih (i + 1) (stepN neg acc (s.data.toList[i])) (by omega) (by omega) (wrap_in _) k (by omega)
    rw [List.drop_eq_getElem_cons hlt, List.foldl_cons, ← next]
    have hj : whilomref02_Value.j1 (k + 1) s acc (i : Int) true = whilomref02_Value.l0 k s (stepN neg acc (s.data.toList[i])) ((i + 1 : Nat) : Int) := by
      rw [whilomref02_Value.j1, if_pos rfl, if_pos (by omega), if_pos (by omega), if_pos (by omega), hb, hup]
      cases neg with
      | true => rw [if_pos (hneg.2 rfl)]; simp only [stepN, if_true]
      | false => rw [if_neg (fun e => by have := hneg.1 e; cases this)]; simp only [stepN, Bool.false_eq_true, if_false]
    rw [whilomref02_Value.l0, if_pos (by omega)]
    by_cases h0 : 0 < i
    · rw [if_pos (by omega), hj]
    · rw [if_neg (by omega), if_pos (by omega)]
      have e : (bt s 0 != 45) = true := by
        rcases hpos with h | h
        · exact absurd h h0
        · subst h
          rw [bne_iff_ne]
          intro e
          have := hneg.1 e
          cases this
      rw [e, hj]

theorem bt_empty (s : ByteArray) (h : s.size = 0) : bt s 0 = 0 := by
  unfold bt
  rw [dif_neg (by simp [h])]

def numR (o : Option Int) : Int × Bool := match o with | some v => (v, true) | none => (0, false)

theorem value_ev (s : ByteArray) {k : Nat} (hk : 100 ≤ k) : whilomref02_Value.f k s = some (numR (num s.data.toList)) := by
  unfold whilomref02_Value.f
  by_cases hbig : 20 < s.size
  · rw [if_pos (by omega)]
    cases hn : num s.data.toList with
    | none => rfl
    | some v =>
      obtain ⟨e, hv, _⟩ := num_some hn
      have := itoa_len hv
      rw [← e, sz] at this
      omega
  · rw [if_neg (by omega)]
    have key : ∃ v : Int, In64 v ∧ whilomref02_Value.l0 k s 0 0 = (if mk (itoa v) = s then some (v, true) else some (0, false)) ∧ ∀ n : Int, In64 n → s.data.toList = itoa n → v = n := by
      by_cases hm : bt s 0 = 45
      · have hpos : 0 < s.size := by
          rcases Nat.eq_zero_or_pos s.size with h | h
          · rw [bt_empty s h] at hm; cases hm
          · exact h
        obtain ⟨j, rfl⟩ : ∃ j, k = j + 2 := ⟨k - 2, by omega⟩
        refine ⟨_, fold_in true (s.data.toList.drop 1) 0 (by unfold In64; omega), ?_, ?_⟩
        · have g := value_go s (by omega) true (by simp [hm]) (s.size - 1) 1 0 (by omega) (by omega) (by unfold In64; omega) j (by omega)
          rw [whilomref02_Value.l0, if_pos (by omega), if_neg (by omega), if_pos (by omega), hm, show ((45 : Int) != 45) = false from rfl, whilomref02_Value.j1, if_neg (by decide), show wrap64 (0 + 1) = ((1 : Nat) : Int) from (by unfold wrap64; omega)]
          exact g
        · intro n hn e
          obtain ⟨h0, h1⟩ := hn
          by_cases hneg : n < 0
          · obtain ⟨u, rfl⟩ : ∃ u : Nat, n = -(u : Int) := ⟨n.natAbs, by omega⟩
            rw [e, itoa_neg u (by omega), List.drop_succ_cons, List.drop_zero]
            exact fold_neg u (by omega)
          · obtain ⟨u, rfl⟩ : ∃ u : Nat, n = u := ⟨n.toNat, by omega⟩
            exfalso
            rw [itoa_nonneg] at e
            cases hc : decDigits u with
            | nil => exact dec_ne u hc
            | cons c r =>
              rw [hc] at e
              have hb := bt_is s 0 c (by rw [e]; rfl)
              have := dec_digits u c (by rw [hc]; simp)
              have hm' : bt s ((0 : Nat) : Int) = 45 := hm
              omega
      · refine ⟨_, fold_in false (s.data.toList.drop 0) 0 (by unfold In64; omega), value_go s (by omega) false (by simp [hm]) s.size 0 0 (by omega) (Or.inr rfl) (by unfold In64; omega) k (by omega), ?_⟩
        intro n hn e
        obtain ⟨h0, h1⟩ := hn
        rw [List.drop_zero, e]
        by_cases hneg : n < 0
        · obtain ⟨u, rfl⟩ : ∃ u : Nat, n = -(u : Int) := ⟨n.natAbs, by omega⟩
          exfalso
          rw [itoa_neg u (by omega)] at e
          have hb := bt_is s 0 45 (by rw [e]; rfl)
          exact hm hb
        · obtain ⟨u, rfl⟩ : ∃ u : Nat, n = u := ⟨n.toNat, by omega⟩
          rw [itoa_nonneg]
          exact fold_pos u (by omega)
    obtain ⟨v, hv, e, hu⟩ := key
    rw [e]
    split
    · rename_i h
      rw [← h, mk_toList, num_itoa hv]
      rfl
    · rename_i h
      cases hn : num s.data.toList with
      | none => rfl
      | some n =>
        obtain ⟨e2, hn2, _⟩ := num_some hn
        have := hu n hn2 e2
        subst this
        exact absurd (by rw [← e2, mk_data]) h

/-! ### Read -/
def readR (o : Option (Int × Int)) : Int × Int × Bool := match o with | some (a, b) => (a, b, true) | none => (0, 0, false)

theorem ext_data (s : ByteArray) (a b : Nat) : (s.extract a b).data.toList = (s.data.toList.drop a).take (b - a) := by simp

theorem readOf_at {s : List UInt8} {i : Nat} (hi : i < s.length) (hn : (35 : UInt8) ∉ s.take i) (h : s[i] = 35) : readOf s = (match num (s.take i), num (s.drop (i + 1)) with | some a, some b => some (a, b) | _, _ => none) := by
  have e0 : s = s.take i ++ 35 :: s.drop (i + 1) := by rw [← h, List.getElem_cons_drop, List.take_append_drop]
  rcases at_hash s with ⟨_, hx⟩ | ⟨j, h1, h2, h3, h4⟩
  · exact absurd (by rw [← h]; exact List.getElem_mem hi) hx
  · have := (split_hash hn h3 (e0.symm.trans h4)).1
    have l := congrArg List.length this
    rw [List.length_take, List.length_take] at l
    have e : i = j := by omega
    subst e
    unfold readOf
    rw [h1, if_pos (by omega), Int.toNat_natCast]
    rfl

theorem read_go (s : ByteArray) (hs : s.size ≤ 1000000) : ∀ (n i : Nat), i + n = s.size → (35 : UInt8) ∉ s.data.toList.take i → ∀ k, n + 101 ≤ k → whilomref02_Read.l0 k s (i : Int) = some (readR (readOf s.data.toList)) := by
  intro n
  induction n with
  | zero =>
    intro i hi hn k hk
    obtain ⟨k, rfl⟩ : ∃ j, k = j + 1 := ⟨k - 1, by omega⟩
    rw [whilomref02_Read.l0, if_neg (by omega)]
    rw [List.take_of_length_le (by rw [sz]; omega)] at hn
    rcases at_hash s.data.toList with ⟨e, _⟩ | ⟨j, h1, h2, h3, h4⟩
    · unfold readOf
      rw [e, if_neg (by decide)]
      rfl
    · exact absurd (by rw [h4]; simp) hn
  | succ n ih =>
    intro i hi hn k hk
    obtain ⟨k, rfl⟩ : ∃ j, k = j + 1 := ⟨k - 1, by omega⟩
    have hlt : i < s.data.toList.length := by rw [sz]; omega
    have hb := bt_is s i _ (List.getElem?_eq_getElem hlt)
    have hup : wrap64 ((i : Int) + 1) = ((i + 1 : Nat) : Int) := by unfold wrap64; omega
    rw [whilomref02_Read.l0, if_pos (by omega), if_pos (by omega), hb, hup]
    by_cases h : s.data.toList[i] = 35
    · rw [if_pos (by rw [h]; rfl), if_pos (by omega), Int.toNat_natCast, value_ev _ (by omega), Option.bind_some, if_pos (by omega), if_pos (by omega), Int.toNat_natCast, value_ev _ (by omega), Option.bind_some]
      rw [readOf_at hlt hn h, ext_data, ext_data]
      simp only [List.drop_zero, Nat.sub_zero]
      rw [List.take_of_length_le (l := s.data.toList.drop (i + 1)) (by rw [List.length_drop, sz]; omega)]
      cases num (s.data.toList.take i) with
      | none => rfl
      | some a =>
        cases num (s.data.toList.drop (i + 1)) with
        | none => rfl
        | some b => rfl
    · rw [if_neg (fun e => h (UInt8.toNat_inj.1 (by have e' : ((35 : UInt8).toNat : Int) = 35 := rfl; omega)))]
      refine ih (i + 1) (by omega) ?_ k (by omega)
      intro hm
      rw [List.take_succ_eq_append_getElem hlt, List.mem_append, List.mem_singleton] at hm
      rcases hm with hm | hm
      · exact hn hm
      · exact h hm.symm

theorem read_ev (s : ByteArray) (hs : s.size ≤ 1000000) {k : Nat} (hk : s.size + 101 ≤ k) : whilomref02_Read.f k s = some (readR (readOf s.data.toList)) := by
  unfold whilomref02_Read.f
  exact read_go s hs s.size 0 (by omega) (by simp) k hk
end Go.Proofs.YtddmlhcjbifkoaaDoor.Item
