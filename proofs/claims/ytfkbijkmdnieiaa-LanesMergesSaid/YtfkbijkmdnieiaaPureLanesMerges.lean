/- The lines of any lanes are merged in the document's order: what the law's printed function computes, at any lanes. No conditions. -/
import Derived.Test.YtfkbijkmdnieiaaPLanesMergesx3
namespace Go.Proofs.Ytfkbijkmdnieiaa.Pure.LanesMerges
open Go.RowKit Go.Proofs.Ytfkbijkmdnieiaa.PLanesMerges Go.Proofs.YtfkbijkmdnieiaaW.PrintWords Go.Proofs.YtfkbijkmdnieiaaW.PrintLast

abbrev Lanes := List (List ByteArray)
abbrev Out := List ByteArray × List Int
abbrev quit : List UInt8 := [113, 117, 105, 116]

/-- One round k: lanes i, i + 1, .. (d of them); did a quit end it; the lines and their lanes; was there one more? -/
def inner (L : Lanes) (k : Nat) : Nat → Nat → List ByteArray → List Int → Bool → Bool × Out × Bool
  | 0, _, ls, fr, m => (false, (ls, fr), m)
  | d + 1, i, ls, fr, m =>
    if k < (L.getD i []).length then
      (if ((L.getD i []).getD k ByteArray.empty).toList = quit then (true, (ls ++ [(L.getD i []).getD k ByteArray.empty], fr ++ [(i : Int)]), true)
       else inner L k d (i + 1) (ls ++ [(L.getD i []).getD k ByteArray.empty]) (fr ++ [(i : Int)]) true)
    else inner L k d (i + 1) ls fr m

def outer (L : Lanes) : Nat → Nat → List ByteArray → List Int → Out
  | 0, _, ls, fr => (ls, fr)
  | f + 1, k, ls, fr => match inner L k L.length 0 ls fr false with
    | (true, r, _) => r
    | (false, (ls, fr), _) => outer L f (k + 1) ls fr

theorem rdL (L : Lanes) (i : Nat) : rd_L1 L (i : Int) = L.getD i [] := by simp [rd_L1]
theorem rdS (l : List ByteArray) (i : Nat) : rdOf ByteArray.empty l (i : Int) = l.getD i ByteArray.empty := by simp [rdOf]
theorem wrap_up {i : Nat} (h : i ≤ 1000000) : wrap64 ((i : Int) + 1) = ((i + 1 : Nat) : Int) := by unfold wrap64; omega

theorem lanes_inner (L : Lanes) (k : Nat) (hL : L.length ≤ 1000000) (K : Nat) : ∀ (d i : Nat) (ls : List ByteArray) (fr : List Int) (m : Bool), i + d = L.length → ls.length + d ≤ 1000000 → fr.length + d ≤ 1000000 →
    lanes_Merge.l1 (K + d + 1) L ls fr (k : Int) m L (L.length : Int) (i : Int) =
      (match inner L k d i ls fr m with
       | (true, r, _) => some r
       | (false, (ls', fr'), m') => lanes_Merge.l0 K L ls' fr' (wrap64 ((k : Int) + 1)) m') := by
  intro d
  induction d with
  | zero =>
    intro i ls fr m hi _ _
    simp only [lanes_Merge.l1, inner]
    rw [if_neg (by omega)]
  | succ d ih =>
    intro i ls fr m hi h1 h2
    rw [show K + (d + 1) + 1 = (K + d + 1) + 1 from by omega, lanes_Merge.l1, inner]
    rw [if_pos (by omega), if_pos (by omega), if_pos (by omega), rdL, rdS]
    by_cases hk : k < (L.getD i []).length
    · rw [if_neg (by omega), if_pos (by omega), if_pos (by omega), if_pos (by omega)]
      simp only [Option.bind_some]
      rw [if_pos (by omega), if_pos hk]
      by_cases hq : ((L.getD i []).getD k ByteArray.empty).toList = quit
      · simp only [if_pos hq]
      · simp only [if_neg hq]
        rw [wrap_up (by omega)]
        exact ih (i + 1) _ _ _ (by omega) (by simp; omega) (by simp; omega)
    · rw [if_pos (by omega), if_neg hk, wrap_up (by omega)]
      exact ih (i + 1) _ _ _ (by omega) (by omega) (by omega)

theorem ref_inner (L : Lanes) (k : Nat) (x6 : Int) (hL : L.length ≤ 1000000) (K : Nat) : ∀ (d i : Nat) (ls : List ByteArray) (fr : List Int) (m : Bool), i + d = L.length → ls.length + d ≤ 1000000 → fr.length + d ≤ 1000000 →
    whilomref27_Merge.l2 (K + d + 1) L ls fr x6 (k : Int) (i : Int) =
      (match inner L k d i ls fr m with
       | (true, r, _) => some r
       | (false, (ls', fr'), _) => whilomref27_Merge.l1 K L ls' fr' x6 (wrap64 ((k : Int) + 1))) := by
  intro d
  induction d with
  | zero =>
    intro i ls fr m hi _ _
    simp only [whilomref27_Merge.l2, inner]
    rw [if_neg (by omega)]
  | succ d ih =>
    intro i ls fr m hi h1 h2
    rw [show K + (d + 1) + 1 = (K + d + 1) + 1 from by omega, whilomref27_Merge.l2, inner]
    rw [if_pos (by omega), if_pos (by omega), rdL, rdS]
    by_cases hk : k < (L.getD i []).length
    · rw [if_pos (by omega), if_pos (by omega), if_pos (by omega)]
      simp only [Option.bind_some]
      rw [if_pos (by omega), if_pos hk]
      by_cases hq : ((L.getD i []).getD k ByteArray.empty).toList = quit
      · simp only [if_pos hq]
      · simp only [if_neg hq]
        rw [wrap_up (by omega)]
        exact ih (i + 1) _ _ _ (by omega) (by simp; omega) (by simp; omega)
    · rw [if_neg (by omega), if_neg hk, wrap_up (by omega)]
      exact ih (i + 1) _ _ _ (by omega) (by omega) (by omega)

theorem inner_len (L : Lanes) (k : Nat) : ∀ (d i : Nat) (ls : List ByteArray) (fr : List Int) (m : Bool),
    (inner L k d i ls fr m).2.1.1.length ≤ ls.length + d ∧ (inner L k d i ls fr m).2.1.2.length ≤ fr.length + d := by
  intro d
  induction d with
  | zero => intro i ls fr m; simp [inner]
  | succ d ih =>
    intro i ls fr m
    simp only [inner]
    split
    · split
      · simp
      · have := ih (i + 1) (ls ++ [(L.getD i []).getD k ByteArray.empty]) (fr ++ [(i : Int)]) true
        simp at this ⊢; omega
    · have := ih (i + 1) ls fr m
      omega

/-- A round in which no lane has a line more does nothing. -/
theorem inner_idle (L : Lanes) (k : Nat) : ∀ (d i : Nat) (ls : List ByteArray) (fr : List Int) (m : Bool), (∀ j, i ≤ j → j < i + d → (L.getD j []).length ≤ k) → inner L k d i ls fr m = (false, (ls, fr), m) := by
  intro d
  induction d with
  | zero => intro i ls fr m _; rfl
  | succ d ih =>
    intro i ls fr m h
    have h0 := h i (by omega) (by omega)
    simp only [inner]
    rw [if_neg (by omega)]
    exact ih (i + 1) ls fr m fun j h1 h2 => h j (by omega) (by omega)

theorem inner_true (L : Lanes) (k : Nat) : ∀ (d i : Nat) (ls : List ByteArray) (fr : List Int), (inner L k d i ls fr true).2.2 = true := by
  intro d
  induction d with
  | zero => intro i ls fr; rfl
  | succ d ih =>
    intro i ls fr
    simp only [inner]
    split
    · split
      · rfl
      · exact ih _ _ _
    · exact ih _ _ _

/-- .. and one in which some lane has one tells so. -/
theorem inner_more (L : Lanes) (k : Nat) : ∀ (d i : Nat) (ls : List ByteArray) (fr : List Int) (m : Bool) (j : Nat), i ≤ j → j < i + d → k < (L.getD j []).length → (inner L k d i ls fr m).2.2 = true := by
  intro d
  induction d with
  | zero => intro i ls fr m j h1 h2; omega
  | succ d ih =>
    intro i ls fr m j h1 h2 h3
    simp only [inner]
    split
    · split
      · rfl
      · exact inner_true L k d (i + 1) _ _
    · rename_i hk
      have : j ≠ i := by rintro rfl; exact hk h3
      exact ih (i + 1) ls fr m j (by omega) (by omega) h3

def longest (L : Lanes) : Nat := L.foldl (fun n l => max n l.length) 0

theorem foldl_max (L : Lanes) : ∀ n, L.foldl (fun n l => max n l.length) n = max n (longest L) := by
  unfold longest
  induction L with
  | nil => intro n; simp
  | cons l L ih => intro n; rw [List.foldl_cons, List.foldl_cons, ih, ih (max 0 l.length)]; omega

theorem le_longest (L : Lanes) : ∀ j, j < L.length → (L.getD j []).length ≤ longest L := by
  induction L with
  | nil => intro j h; simp at h
  | cons l L ih =>
    intro j h
    have e : longest (l :: L) = max (max 0 l.length) (longest L) := by
      show (l :: L).foldl _ 0 = _
      rw [List.foldl_cons, foldl_max]
    rw [e]
    cases j with
    | zero => simp; omega
    | succ j =>
      have := ih j (by simpa using h)
      simp at this ⊢
      omega

theorem longest_at (L : Lanes) (k : Nat) (h : k < longest L) : ∃ j, j < L.length ∧ k < (L.getD j []).length := by
  induction L with
  | nil => simp [longest] at h
  | cons l L ih =>
    have e : longest (l :: L) = max (max 0 l.length) (longest L) := by
      show (l :: L).foldl _ 0 = _
      rw [List.foldl_cons, foldl_max]
    rw [e] at h
    by_cases hk : k < l.length
    · exact ⟨0, by simp, by simpa using hk⟩
    · obtain ⟨j, h1, h2⟩ := ih (by omega)
      exact ⟨j + 1, by simpa using h1, by simpa using h2⟩

theorem lanes_outer (L : Lanes) (hL : L.length ≤ 1000) (hl : longest L ≤ 100) : ∀ (f k : Nat) (ls : List ByteArray) (fr : List Int), k + f = longest L → ls.length ≤ 1000 * k → fr.length ≤ 1000 * k →
    ∃ K, lanes_Merge.l0 K L ls fr (k : Int) true = some (outer L f k ls fr) := by
  intro f
  induction f with
  | zero =>
    intro k ls fr hk h1 h2
    refine ⟨1 + L.length + 1 + 1, ?_⟩
    have := lanes_inner L k (by omega) 1 L.length 0 ls fr false (by omega) (by omega) (by omega)
    simp only [lanes_Merge.l0, if_true]
    refine this.trans ?_
    rw [inner_idle L k _ _ _ _ _ (fun j _ h => by have := le_longest L j (by omega); omega)]
    simp [lanes_Merge.l0, outer]
  | succ f ih =>
    intro k ls fr hk h1 h2
    have hin := inner_len L k L.length 0 ls fr false
    obtain ⟨j, hj1, hj2⟩ := longest_at L k (by omega)
    have hm := inner_more L k L.length 0 ls fr false j (by omega) (by omega) hj2
    rcases hr : inner L k L.length 0 ls fr false with ⟨q, ⟨ls', fr'⟩, m'⟩
    rw [hr] at hin hm
    simp only at hin hm
    cases q with
    | true =>
      refine ⟨1 + L.length + 1 + 1, ?_⟩
      have := lanes_inner L k (by omega) 1 L.length 0 ls fr false (by omega) (by omega) (by omega)
      simp only [lanes_Merge.l0, if_true]
      refine this.trans ?_
      simp only [outer, hr]
    | false =>
      obtain ⟨K, hK⟩ := ih (k + 1) ls' fr' (by omega) (by omega) (by omega)
      refine ⟨K + L.length + 1 + 1, ?_⟩
      have := lanes_inner L k (by omega) K L.length 0 ls fr false (by omega) (by omega) (by omega)
      simp only [lanes_Merge.l0, if_true]
      refine this.trans ?_
      simp only [outer, hr]
      rw [wrap_up (by omega), hm, hK]

theorem ref_outer (L : Lanes) (hL : L.length ≤ 1000) (hl : longest L ≤ 100) : ∀ (f k : Nat) (ls : List ByteArray) (fr : List Int), k + f = longest L → ls.length ≤ 1000 * k → fr.length ≤ 1000 * k →
    ∃ K, whilomref27_Merge.l1 K L ls fr (longest L : Int) (k : Int) = some (outer L f k ls fr) := by
  intro f
  induction f with
  | zero =>
    intro k ls fr hk h1 h2
    refine ⟨1, ?_⟩
    simp only [whilomref27_Merge.l1]
    rw [if_neg (by omega)]; rfl
  | succ f ih =>
    intro k ls fr hk h1 h2
    have hin := inner_len L k L.length 0 ls fr false
    rcases hr : inner L k L.length 0 ls fr false with ⟨q, ⟨ls', fr'⟩, m'⟩
    rw [hr] at hin
    simp only at hin
    cases q with
    | true =>
      refine ⟨1 + L.length + 1 + 1, ?_⟩
      have := ref_inner L k (longest L : Int) (by omega) 1 L.length 0 ls fr false (by omega) (by omega) (by omega)
      simp only [whilomref27_Merge.l1]
      rw [if_pos (by omega)]
      refine this.trans ?_
      simp only [outer, hr]
    | false =>
      obtain ⟨K, hK⟩ := ih (k + 1) ls' fr' (by omega) (by omega) (by omega)
      refine ⟨K + L.length + 1 + 1, ?_⟩
      have := ref_inner L k (longest L : Int) (by omega) K L.length 0 ls fr false (by omega) (by omega) (by omega)
      simp only [whilomref27_Merge.l1]
      rw [if_pos (by omega)]
      refine this.trans ?_
      simp only [outer, hr]
      rw [wrap_up (by omega), hK]

theorem ref_longest (L : Lanes) (hL : L.length ≤ 1000) (K : Nat) : ∀ (d i n : Nat), i + d = L.length →
    whilomref27_Merge.l0 (K + d + 1) L (n : Int) (i : Int) = whilomref27_Merge.l1 K L [] [] (((L.drop i).foldl (fun n l => max n l.length) n : Nat) : Int) 0 := by
  intro d
  induction d with
  | zero =>
    intro i n hi
    simp only [whilomref27_Merge.l0]
    rw [if_neg (by omega), List.drop_eq_nil_of_le (by omega)]; rfl
  | succ d ih =>
    intro i n hi
    rw [show K + (d + 1) + 1 = (K + d + 1) + 1 from by omega]
    rw [whilomref27_Merge.l0, if_pos (by omega), if_pos (by omega), rdL, wrap_up (by omega)]
    have hlt : i < L.length := by omega
    have e : mx (n : Int) ((L.getD i []).length : Int) = ((max n (L.getD i []).length : Nat) : Int) := by unfold mx; omega
    rw [e, ih (i + 1) _ (by omega), List.drop_eq_getElem_cons hlt, List.foldl_cons]
    simp [List.getD, hlt]

theorem ref_merge (L : Lanes) (hL : L.length ≤ 1000) (hl : longest L ≤ 100) : ∃ K, whilomref27_Merge.f K L = some (outer L (longest L) 0 [] []) := by
  obtain ⟨K, hK⟩ := ref_outer L hL hl (longest L) 0 [] [] (by omega) (by simp) (by simp)
  refine ⟨K + L.length + 1, ?_⟩
  have := ref_longest L hL K L.length 0 0 (by omega)
  simp only [List.drop_zero] at this
  exact this.trans hK

theorem lanes_merge (L : Lanes) (hL : L.length ≤ 1000) (hl : longest L ≤ 100) : ∃ K, lanes_Merge.f K L = some (outer L (longest L) 0 [] []) :=
  lanes_outer L hL hl (longest L) 0 [] [] (by omega) (by simp) (by simp)

theorem outer_len (L : Lanes) : ∀ (f k : Nat) (ls : List ByteArray) (fr : List Int), (outer L f k ls fr).1.length ≤ ls.length + f * L.length ∧ (outer L f k ls fr).2.length ≤ fr.length + f * L.length := by
  intro f
  induction f with
  | zero => intro k ls fr; simp [outer]
  | succ f ih =>
    intro k ls fr
    have hin := inner_len L k L.length 0 ls fr false
    rcases hr : inner L k L.length 0 ls fr false with ⟨q, ⟨ls', fr'⟩, m'⟩
    rw [hr] at hin
    simp only at hin
    rw [Nat.succ_mul]
    cases q with
    | true => simp only [outer, hr]; omega
    | false =>
      have := ih (k + 1) ls' fr'
      simp only [outer, hr]; omega

theorem same_self (l : List ByteArray) (hl : l.length ≤ 1000000) : ∃ K, whilomref20_Same.f K l l = some true := by
  have go : ∀ (d i : Nat), i + d = l.length → whilomref20_Same.l0 (d + 1) l l (i : Int) = some true := by
    intro d
    induction d with
    | zero =>
      intro i hi
      simp only [whilomref20_Same.l0]
      rw [if_neg (by omega)]
    | succ d ih =>
      intro i hi
      rw [whilomref20_Same.l0, if_pos (by omega), if_pos (by omega), if_pos (by omega), if_pos rfl, wrap_up (by omega)]
      exact ih (i + 1) (by omega)
  refine ⟨l.length + 1, ?_⟩
  unfold whilomref20_Same.f
  rw [if_pos rfl]
  exact go l.length 0 (by omega)

theorem ints_self (l : List Int) (hl : l.length ≤ 1000000) : ∃ K, whilomref01_Ints.f K l l = some true := by
  have go : ∀ (d i : Nat), i + d = l.length → whilomref01_Ints.l0 (d + 1) l l (i : Int) = some true := by
    intro d
    induction d with
    | zero =>
      intro i hi
      simp only [whilomref01_Ints.l0]
      rw [if_neg (by omega)]
    | succ d ih =>
      intro i hi
      rw [whilomref01_Ints.l0, if_pos (by omega), if_pos (by omega), if_pos (by omega), if_pos rfl, wrap_up (by omega)]
      exact ih (i + 1) (by omega)
  refine ⟨l.length + 1, ?_⟩
  unfold whilomref01_Ints.f
  rw [if_pos rfl]
  exact go l.length 0 (by omega)

theorem small_inner (L : Lanes) (hL : L.length ≤ 1000) (K : Nat) (x3 : Int) (i : Nat) (hi : i < L.length) (hr : (L.getD i []).length ≤ 60) : ∀ (d j : Nat), j + d = (L.getD i []).length →
    whilomlaw27_small.l1 (K + d + 1) L x3 (i : Int) (j : Int) = some false ∨ whilomlaw27_small.l1 (K + d + 1) L x3 (i : Int) (j : Int) = whilomlaw27_small.l0 K L x3 ((i + 1 : Nat) : Int) := by
  intro d
  induction d with
  | zero =>
    intro j hj
    right
    simp only [whilomlaw27_small.l1]
    rw [if_pos (by omega), if_pos (by omega), rdL, if_neg (by omega), wrap_up (by omega)]
  | succ d ih =>
    intro j hj
    rw [show K + (d + 1) + 1 = (K + d + 1) + 1 from by omega, whilomlaw27_small.l1]
    rw [if_pos (by omega), if_pos (by omega), rdL, if_pos (by omega), if_pos (by omega), wrap_up (by omega)]
    by_cases hc : ((rdOf ByteArray.empty (L.getD i []) (j : Int)).size : Int) > 300
    · left; rw [if_pos hc]
    · rw [if_neg hc]; exact ih (j + 1) (by omega)

theorem small_outer (L : Lanes) (hL : L.length ≤ 1000) : ∀ (d i : Nat) (x3 : Nat), i + d = L.length → x3 ≤ 60 * i →
    ∃ K b, whilomlaw27_small.l0 K L (x3 : Int) (i : Int) = some b ∧ (b = true → ∀ j, i ≤ j → j < L.length → (L.getD j []).length ≤ 60) := by
  intro d
  induction d with
  | zero =>
    intro i x3 hi hx
    refine ⟨1, decide ((x3 : Int) ≤ 80), ?_, fun _ j h1 h2 => by omega⟩
    simp only [whilomlaw27_small.l0]
    rw [if_neg (by omega)]
  | succ d ih =>
    intro i x3 hi hx
    by_cases hr : (L.getD i []).length ≤ 60
    · obtain ⟨K, b, hK, hb⟩ := ih (i + 1) (x3 + (L.getD i []).length) (by omega) (by omega)
      have e : wrap64 ((x3 : Int) + ((L.getD i []).length : Int)) = ((x3 + (L.getD i []).length : Nat) : Int) := by unfold wrap64; omega
      rcases small_inner L hL K ((x3 + (L.getD i []).length : Nat) : Int) i (by omega) hr (L.getD i []).length 0 (by omega) with h | h
      · refine ⟨K + (L.getD i []).length + 1 + 1, false, ?_, fun h => by cases h⟩
        simp only [whilomlaw27_small.l0]
        rw [if_pos (by omega), if_pos (by omega), rdL, if_neg (by omega), e]
        exact h
      · refine ⟨K + (L.getD i []).length + 1 + 1, b, ?_, fun hb' j h1 h2 => ?_⟩
        · simp only [whilomlaw27_small.l0]
          rw [if_pos (by omega), if_pos (by omega), rdL, if_neg (by omega), e]
          exact h.trans hK
        · by_cases hj : j = i
          · subst hj; exact hr
          · exact hb hb' j (by omega) h2
    · refine ⟨1, false, ?_, fun h => by cases h⟩
      simp only [whilomlaw27_small.l0]
      rw [if_pos (by omega), if_pos (by omega), rdL, if_pos (by omega)]

theorem small_tells (L : Lanes) : ∃ K b, whilomlaw27_small.f K L = some b ∧ (b = true → L.length ≤ 20 ∧ longest L ≤ 60) := by
  unfold whilomlaw27_small.f
  by_cases h : (L.length : Int) > 20
  · exact ⟨0, false, by rw [if_pos h], fun h => by cases h⟩
  · obtain ⟨K, b, hK, hb⟩ := small_outer L (by omega) L.length 0 0 (by omega) (by omega)
    refine ⟨K, b, ?_, fun e => ⟨by omega, ?_⟩⟩
    · rw [if_neg h]; exact hK
    · by_cases hl : longest L ≤ 60
      · exact hl
      · obtain ⟨j, h1, h2⟩ := longest_at L 60 (by omega)
        have := hb e j (by omega) h1
        omega

theorem awake : lanes_Merge.f 20 [[⟨#[120]⟩, ⟨#[121]⟩], [⟨#[122]⟩]] = some ([⟨#[120]⟩, ⟨#[122]⟩, ⟨#[121]⟩], [0, 1, 0]) := by decide +kernel

theorem tail (L : Lanes) : ∃ K, ∀ k, K ≤ k → whilomlaw27_LanesMerges.j0 (k + 1) L false = some true := by
  obtain ⟨K1, b, h1, hb⟩ := small_tells L
  have e1 := fun k (hk : K1 ≤ k) => at_rounds (whilomlaw27_small.mono L) hk h1
  cases b with
  | false =>
    refine ⟨K1, fun k hk => ?_⟩
    simp only [whilomlaw27_LanesMerges.j0]
    rw [e1 k hk]; rfl
  | true =>
    obtain ⟨hL, hl⟩ := hb rfl
    obtain ⟨K2, h2⟩ := lanes_merge L (by omega) (by omega)
    obtain ⟨K3, h3⟩ := ref_merge L (by omega) (by omega)
    have hlen := outer_len L (longest L) 0 [] []
    have hm : longest L * L.length ≤ 60 * 20 := Nat.mul_le_mul hl hL
    simp only [List.length_nil] at hlen
    obtain ⟨K4, h4⟩ := same_self (outer L (longest L) 0 [] []).1 (by omega)
    obtain ⟨K5, h5⟩ := ints_self (outer L (longest L) 0 [] []).2 (by omega)
    have e2 := fun k (hk : K2 ≤ k) => at_rounds (lanes_Merge.mono L) hk h2
    have e3 := fun k (hk : K3 ≤ k) => at_rounds (whilomref27_Merge.mono L) hk h3
    have e4 := fun k (hk : K4 ≤ k) => at_rounds (whilomref20_Same.mono _ _) hk h4
    have e5 := fun k (hk : K5 ≤ k) => at_rounds (whilomref01_Ints.mono _ _) hk h5
    refine ⟨K1 + K2 + K3 + K4 + K5, fun k hk => ?_⟩
    simp only [whilomlaw27_LanesMerges.j0]
    rw [e1 k (by omega), e2 k (by omega), e3 k (by omega)]
    simp only [Option.bind_some]
    rw [e4 k (by omega)]
    simp only [Option.bind_some]
    rw [e5 k (by omega)]
    simp

theorem holds (L : Lanes) : ∃ k, whilomlaw27_LanesMerges.f k L = some true := by
  obtain ⟨K, hK⟩ := tail L
  refine ⟨K + 20 + 1, ?_⟩
  have ea := at_rounds (lanes_Merge.mono [[⟨#[120]⟩, ⟨#[121]⟩], [⟨#[122]⟩]]) (show 20 ≤ K + 20 + 1 by omega) awake
  unfold whilomlaw27_LanesMerges.f
  rw [ea]
  simp only [Option.bind_some]
  rw [if_pos (by decide), if_pos (by decide), if_pos (by decide), if_pos (by decide +kernel), if_pos (by decide), if_pos (by decide), if_pos (by decide)]
  have e : ((rdOf ByteArray.empty [⟨#[120]⟩, ⟨#[122]⟩, ⟨#[121]⟩] 2).toList != ([121] : List UInt8)) = false := by decide +kernel
  rw [e]
  exact hK (K + 20) (by omega)

end Go.Proofs.Ytfkbijkmdnieiaa.Pure.LanesMerges
