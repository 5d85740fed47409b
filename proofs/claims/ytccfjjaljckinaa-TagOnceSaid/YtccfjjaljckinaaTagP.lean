/- Plain facts on lists of slots: which times are taken, how many live, when one slot turns. No conditions. -/
import Derived.Test.YtccfjjaljckinaaTagE
namespace Go.Proofs.Ytccfjjaljckinaa.Tag
open Go.RowKit Go.Proofs.Ytccfjjaljckinaa.Mem Go.Proofs.Ytccfjjaljckinaa.IMap

def Distinct (l : List Slot) : Prop := ∀ (i j : Nat) (a b : Slot), l[i]? = some a → l[j]? = some b → 0 < a.gen → 0 < b.gen → a.op.time = b.op.time → i = j

theorem T_none {l : List Slot} {x : Int} (h : ∀ (i : Nat) (s : Slot), l[i]? = some s → 0 < s.gen → s.op.time ≠ x) : timesOf l x = none := by
  cases hf : timesOf l x with
  | none => rfl
  | some y =>
    obtain ⟨i, s, _, hs, hg, ht⟩ := timesOf_some hf
    exact absurd ht (h i s hs hg)
theorem T_some {l : List Slot} (D : Distinct l) {x : Int} {i : Nat} {s : Slot} (hs : l[i]? = some s) (hg : 0 < s.gen) (ht : s.op.time = x) : timesOf l x = some (i : Int) := by
  cases hf : timesOf l x with
  | none => exact absurd ht (timesOf_none hf s (List.mem_of_getElem? hs) hg)
  | some y =>
    obtain ⟨j, b, rfl, hb, hg', ht'⟩ := timesOf_some hf
    rw [D i j s b hs hb hg hg' (ht.trans ht'.symm)]

theorem set_at {l : List Slot} {i : Nat} {s s' : Slot} (hs : l[i]? = some s) : (l.set i s')[i]? = some s' := by
  have := (List.getElem?_eq_some_iff.1 hs).1
  simp [this]
theorem set_off {l : List Slot} {i j : Nat} {s' : Slot} (h : j ≠ i) : (l.set i s')[j]? = l[j]? := List.getElem?_set_ne (Ne.symm h)

theorem timesOf_set {l : List Slot} {i : Nat} {s s' : Slot} (hs : l[i]? = some s) (D : Distinct l) (D' : Distinct (l.set i s')) (x : Int) :
    timesOf (l.set i s') x = if 0 < s'.gen ∧ s'.op.time = x then some (i : Int) else if 0 < s.gen ∧ s.op.time = x then none else timesOf l x := by
  split
  · rename_i h
    exact T_some D' (set_at hs) h.1 h.2
  · rename_i h1
    split
    · rename_i h2
      refine T_none fun j b hb hg ht => ?_
      by_cases hj : j = i
      · subst hj
        rw [set_at hs] at hb
        injection hb with hb
        subst hb
        exact h1 ⟨hg, ht⟩
      · rw [set_off hj] at hb
        exact hj (D j i b s hb hs hg h2.1 (ht.trans h2.2.symm))
    · rename_i h2
      cases hf : timesOf l x with
      | none =>
        refine T_none fun j b hb hg ht => ?_
        by_cases hj : j = i
        · subst hj
          rw [set_at hs] at hb
          injection hb with hb
          subst hb
          exact h1 ⟨hg, ht⟩
        · rw [set_off hj] at hb
          exact timesOf_none hf b (List.mem_of_getElem? hb) hg ht
      | some y =>
        obtain ⟨j, b, rfl, hb, hg, ht⟩ := timesOf_some hf
        by_cases hj : j = i
        · subst hj
          rw [hs] at hb
          injection hb with hb
          subst hb
          exact absurd ⟨hg, ht⟩ h2
        · exact T_some D' (by rw [set_off hj]; exact hb) hg ht

theorem liveN_set : ∀ {l : List Slot} {i : Nat} {s : Slot} (s' : Slot), l[i]? = some s → liveN (l.set i s') + (if 0 < s.gen then 1 else 0) = liveN l + (if 0 < s'.gen then 1 else 0)
  | [], i, s, s', h => by simp at h
  | x :: l, 0, s, s', h => by
    simp at h; subst h
    unfold liveN
    rw [List.set_cons_zero, List.filter_cons, List.filter_cons]
    by_cases h1 : 0 < x.gen <;> by_cases h2 : 0 < s'.gen <;> simp [h1, h2]
  | x :: l, i + 1, s, s', h => by
    have ih := liveN_set (l := l) (i := i) s' (by simpa using h)
    unfold liveN at ih ⊢
    rw [List.set_cons_succ, List.filter_cons, List.filter_cons]
    by_cases h1 : 0 < x.gen <;> simp [h1] <;> omega

theorem liveN_le (l : List Slot) : liveN l ≤ l.length := List.length_filter_le _ _

theorem cellsOf_cons (s : Slot) (l : List Slot) : cellsOf (s :: l) = .int .i64 s.last :: .int .i64 s.gen :: .int .i64 s.op.time :: .bool s.op.ins :: .int .i64 s.op.key :: .int .i64 s.op.id :: cellsOf l := by
  unfold cellsOf; rw [List.flatMap_cons]; rfl
theorem cellsOf_set : ∀ {l : List Slot} {i : Nat} {s : Slot} (s' : Slot), l[i]? = some s →
    cellsOf (l.set i s') = ((((((cellsOf l).set (i * 6 + 1) (.int .i64 s'.gen)).set (i * 6 + 2) (.int .i64 s'.op.time)).set (i * 6 + 3) (.bool s'.op.ins)).set (i * 6 + 4) (.int .i64 s'.op.key)).set (i * 6 + 5) (.int .i64 s'.op.id)).set (i * 6) (.int .i64 s'.last)
  | [], i, s, s', h => by simp at h
  | x :: l, 0, s, s', h => by
    rw [List.set_cons_zero, cellsOf_cons, cellsOf_cons]; rfl
  | x :: l, i + 1, s, s', h => by
    have ih := cellsOf_set (l := l) (i := i) s' (by simpa using h)
    rw [List.set_cons_succ, cellsOf_cons, cellsOf_cons, ih, show (i + 1) * 6 = i * 6 + 1 + 1 + 1 + 1 + 1 + 1 by omega]
    rfl

/-- A good table with one slot turned. -/
theorem Good.set {t : Tab} (h : Good t) {i : Nat} {s' : Slot} (hs' : GoodSlot s') (hd : 0 < s'.gen → ∀ (j : Nat) (b : Slot), j ≠ i → t.slots[j]? = some b → 0 < b.gen → b.op.time ≠ s'.op.time) : Good { t with slots := t.slots.set i s' } := by
  refine ⟨h.cap0, h.cap1, h.serial, fun s hs => ?_, fun a b x y ha hb hx hy he => ?_, by simpa using h.few⟩
  · rcases List.mem_or_eq_of_mem_set hs with hs | rfl
    · exact h.slots s hs
    · exact hs'
  · simp only at ha hb
    by_cases hai : a = i
    · by_cases hbi : b = i
      · rw [hai, hbi]
      · exfalso
        subst hai
        rw [set_off hbi] at hb
        have hlt : a < t.slots.length := by
          have := (List.getElem?_eq_some_iff.1 ha).1
          simpa using this
        have hx' : x = s' := by
          rw [List.getElem?_set_self hlt] at ha
          injection ha with ha
          exact ha.symm
        subst hx'
        exact hd hx b y hbi hb hy he.symm
    · rw [set_off hai] at ha
      by_cases hbi : b = i
      · exfalso
        subst hbi
        have hlt : b < t.slots.length := by
          have := (List.getElem?_eq_some_iff.1 hb).1
          simpa using this
        have hy' : y = s' := by
          rw [List.getElem?_set_self hlt] at hb
          injection hb with hb
          exact hb.symm
        subst hy'
        exact hd hy a x hai ha hx he
      · rw [set_off hbi] at hb
        exact h.times a b x y ha hb hx hy he
end Go.Proofs.Ytccfjjaljckinaa.Tag
