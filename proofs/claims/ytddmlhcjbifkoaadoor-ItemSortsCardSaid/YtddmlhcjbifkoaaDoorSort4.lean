/- Items in order, plainly: the document's insertion gives the one sorted list; the best by a sign is its first or its last one. No conditions. -/
import Derived.Test.YtddmlhcjbifkoaaDoorItem3
import Derived.Test.YtddmlhcjbifkoaaDoorSortRefS
namespace Go.Proofs.YtddmlhcjbifkoaaDoor.Sort
open Go Go.RowKit Go.Proofs.YtddmlhcjbifkoaaDoor.Item Go.Proofs.YtddmlhcjbifkoaaDoorW.PrintWords Go.Proofs.YtddmlhcjbifkoaaDoor.PItemSorts
set_option linter.unusedVariables false
def cmI (x y : Int × Int) : Int := cmpR x.1 x.2 y.1 y.2
def leI (x y : Int × Int) : Bool := decide (cmI x y ≤ 0)
theorem cmI_three (x y : Int × Int) : cmI x y = -1 ∨ cmI x y = 0 ∨ cmI x y = 1 := by
  unfold cmI cmpR
  repeat' split
  all_goals simp
theorem cmI_neg (x y : Int × Int) : cmI x y < 0 ↔ x.1 < y.1 ∨ x.1 = y.1 ∧ x.2 < y.2 := by
  unfold cmI cmpR
  repeat' split
  all_goals (simp; try omega)
theorem cmI_pos (x y : Int × Int) : 0 < cmI x y ↔ y.1 < x.1 ∨ y.1 = x.1 ∧ y.2 < x.2 := by
  unfold cmI cmpR
  repeat' split
  all_goals (simp; try omega)
theorem leI_iff (x y : Int × Int) : leI x y = true ↔ x.1 < y.1 ∨ x.1 = y.1 ∧ x.2 ≤ y.2 := by
  unfold leI
  rw [decide_eq_true_iff]
  have := cmI_pos x y
  omega
theorem leI_false (x y : Int × Int) : leI x y = false ↔ y.1 < x.1 ∨ y.1 = x.1 ∧ y.2 < x.2 := by
  rw [← Bool.not_eq_true, leI_iff]
  omega
theorem leI_trans (a b c : Int × Int) (h : leI a b = true) (h' : leI b c = true) : leI a c = true := by
  rw [leI_iff] at *
  omega
theorem leI_total (a b : Int × Int) : (leI a b || leI b a) = true := by
  rw [Bool.or_eq_true, leI_iff, leI_iff]
  omega
theorem leI_anti {a b : Int × Int} (h : leI a b = true) (h' : leI b a = true) : a = b := by
  rw [leI_iff] at *
  exact Prod.ext (by omega) (by omega)
theorem leI_refl (a : Int × Int) : leI a a = true := by rw [leI_iff]; omega
def SortedI (l : List (Int × Int)) : Prop := l.Pairwise fun x y => leI x y = true
def sortI (l : List (Int × Int)) : List (Int × Int) := l.mergeSort leI
theorem sortI_perm (l : List (Int × Int)) : (sortI l).Perm l := List.mergeSort_perm l leI
theorem sortI_sorted (l : List (Int × Int)) : SortedI (sortI l) := List.pairwise_mergeSort leI_trans leI_total l
theorem sortI_length (l : List (Int × Int)) : (sortI l).length = l.length := (sortI_perm l).length_eq
theorem eq_sortI {r l : List (Int × Int)} (hp : r.Perm l) (hs : SortedI r) : r = sortI l :=
  List.Perm.eq_of_pairwise (le := fun x y => leI x y = true) (fun _ _ _ _ h h' => leI_anti h h') hs (sortI_sorted l) (hp.trans (sortI_perm l).symm)
theorem insI {out : List (Int × Int)} (hs : SortedI out) (k : Nat) (x : Int × Int) (h1 : ∀ a ∈ out.take k, leI a x = true) (h2 : ∀ b ∈ out.drop k, leI x b = true) : SortedI (out.take k ++ x :: out.drop k) := by
  have e : SortedI (out.take k ++ out.drop k) := by rw [List.take_append_drop]; exact hs
  unfold SortedI at *
  rw [List.pairwise_append] at e ⊢
  refine ⟨e.1, List.pairwise_cons.2 ⟨h2, e.2.1⟩, fun a ha b hb => ?_⟩
  rcases List.mem_cons.1 hb with rfl | hb
  · exact h1 a ha
  · exact e.2.2 a ha b hb
theorem insI_perm (out : List (Int × Int)) (k : Nat) (x : Int × Int) : (out.take k ++ x :: out.drop k).Perm (x :: out) := by
  refine List.perm_middle.trans ?_
  rw [List.take_append_drop]
/-! The document's. -/
def toS (x : Int × Int) : S41 := ⟨x.1, x.2⟩
theorem ahead_ev (x y : Int × Int) : whilomref02_Ahead.f (toS x).f0 (toS x).f1 (toS y).f0 (toS y).f1 = some (!leI y x) := by
  unfold whilomref02_Ahead.f toS
  have := leI_iff y x
  have h' := leI_false y x
  cases h : leI y x
  · rw [h'] at h
    simp only [Bool.not_false]
    split
    · rfl
    · rw [if_pos (by omega), decide_eq_true (by omega)]
  · rw [this] at h
    simp only [Bool.not_true]
    rw [if_neg (by omega)]
    split
    · rw [decide_eq_false (by omega)]
    · rfl
theorem rd_at {xs : List (Int × Int)} {i : Nat} {x : Int × Int} (h : xs[i]? = some x) : rd_T41 (xs.map toS) (i : Int) = toS x := by
  unfold rd_T41
  rw [List.getD_eq_getElem?_getD, List.getElem?_map, Int.toNat_natCast, h]
  rfl
section
variable {xs : List (Int × Int)} {R : List S41} {i : Nat} {x : Int × Int}
theorem l1_ins (hx : xs[i]? = some x) (hl : xs.length ≤ 100) {out : List (Int × Int)} (ho : out.length = i) (hs : SortedI out) (hp : out.Perm (xs.take i)) (k : Nat) (hk : k ≤ out.length) (h1 : ∀ a ∈ out.take k, leI a x = true) (h2 : ∀ b ∈ out.drop k, leI x b = true)
    (hG : ∀ out' : List (Int × Int), out'.length = i + 1 → SortedI out' → out'.Perm (xs.take (i + 1)) → ∃ K, whilomref02_Sorted.l0 K (xs.map toS) (out'.map toS) ((i + 1 : Nat) : Int) = some R) :
    ∃ K, whilomref02_Sorted.l0 K (xs.map toS) ((([] : List S41) ++ (out.map toS).take k) ++ [(⟨(toS x).f0, (toS x).f1⟩ : S41)] ++ (out.map toS).drop k) ((i + 1 : Nat) : Int) = some R := by
  have hi : i < xs.length := (List.getElem?_eq_some_iff.1 hx).1
  have e : (([] : List S41) ++ (out.map toS).take k) ++ [(⟨(toS x).f0, (toS x).f1⟩ : S41)] ++ (out.map toS).drop k = (out.take k ++ x :: out.drop k).map toS := by
    simp [toS]
  rw [e]
  refine hG _ ?_ (insI hs k x h1 h2) ?_
  · rw [(insI_perm out k x).length_eq, List.length_cons, ho]
  · refine (insI_perm out k x).trans ?_
    have : xs.take (i + 1) = xs.take i ++ [x] := by rw [List.take_add_one, hx]; rfl
    rw [this]
    exact (List.Perm.cons x hp).trans (List.perm_append_singleton x _).symm
theorem l1_ev (hx : xs[i]? = some x) (hl : xs.length ≤ 100) {out : List (Int × Int)} (ho : out.length = i) (hs : SortedI out) (hp : out.Perm (xs.take i))
    (hG : ∀ out' : List (Int × Int), out'.length = i + 1 → SortedI out' → out'.Perm (xs.take (i + 1)) → ∃ K, whilomref02_Sorted.l0 K (xs.map toS) (out'.map toS) ((i + 1 : Nat) : Int) = some R) :
    ∀ k, k ≤ out.length → (∀ b ∈ out.drop k, leI b x = false) → ∃ K, whilomref02_Sorted.l1 K (xs.map toS) (out.map toS) (i : Int) (k : Int) = some R := by
  have hi : i < xs.length := (List.getElem?_eq_some_iff.1 hx).1
  have le_of : ∀ {b}, leI b x = false → leI x b = true := fun {b} h => by rw [leI_false] at h; rw [leI_iff]; omega
  have w1 : wrap64 ((i : Int) + 1) = ((i + 1 : Nat) : Int) := by rw [wrap64_in _ (by omega)]; rfl
  intro k
  induction k with
  | zero =>
    intro hk hb
    obtain ⟨K, hK⟩ := l1_ins hx hl ho hs hp 0 hk (fun a ha => by simp at ha) (fun b hb' => le_of (hb b hb')) hG
    refine ⟨K + 1, ?_⟩
    rw [whilomref02_Sorted.l1, if_neg (by simp), if_pos (by simp), if_pos (by simp)]
    simp only [Option.bind_some, rd_at hx, Int.toNat_natCast, w1]
    rw [if_pos (by simp), if_pos (by omega), if_pos (by simp; omega), if_pos (by simp), if_pos (by simp; omega)]
    exact hK
  | succ k ih =>
    intro hk hb
    have hkl : k < out.length := by omega
    have hy : out[k]? = some out[k] := List.getElem?_eq_getElem hkl
    have w2 : wrap64 (((k + 1 : Nat) : Int) - 1) = (k : Int) := by rw [wrap64_in _ (by omega)]; omega
    cases hc : leI out[k] x with
    | false =>
      obtain ⟨K, hK⟩ := ih (by omega) (fun b hb' => by
        rw [List.drop_eq_getElem_cons hkl] at hb'
        rcases List.mem_cons.1 hb' with rfl | hb'
        · exact hc
        · exact hb b hb')
      refine ⟨K + 1, ?_⟩
      rw [whilomref02_Sorted.l1, if_pos (by omega), if_pos (by omega), if_pos (by simp; omega), w2, if_pos (by omega), if_pos (by simp; omega)]
      rw [rd_at hx, rd_at hy, ahead_ev, hc]
      simp only [Option.bind_some, Bool.not_false, if_true]
      exact hK
    | true =>
      obtain ⟨K, hK⟩ := l1_ins hx hl ho hs hp (k + 1) hk (fun a ha => by
        obtain ⟨j, hj, rfl⟩ := List.getElem_of_mem ha
        rw [List.length_take] at hj
        rw [List.getElem_take]
        rcases Nat.lt_or_eq_of_le (show j ≤ k by omega) with h | rfl
        · exact leI_trans _ _ _ (List.pairwise_iff_getElem.1 hs j k (by omega) hkl h) hc
        · exact hc) (fun b hb' => le_of (hb b hb')) hG
      refine ⟨K + 1, ?_⟩
      rw [whilomref02_Sorted.l1, if_pos (by omega), if_pos (by omega), if_pos (by simp; omega), w2, if_pos (by omega), if_pos (by simp; omega)]
      rw [rd_at hx, rd_at hy, ahead_ev, hc]
      simp only [Option.bind_some, Bool.not_true, Int.toNat_natCast, w1]
      rw [if_neg (by decide), if_pos (by omega), if_pos (by simp; omega), if_pos (by simp; omega), if_pos (by simp; omega), if_pos (by simp; omega)]
      exact hK
end
theorem l0_ev {xs : List (Int × Int)} (hl : xs.length ≤ 100) : ∀ m i, xs.length - i = m → i ≤ xs.length → ∀ out : List (Int × Int), out.length = i → SortedI out → out.Perm (xs.take i) → ∃ K, whilomref02_Sorted.l0 K (xs.map toS) (out.map toS) (i : Int) = some ((sortI xs).map toS) := by
  intro m
  induction m with
  | zero =>
    intro i hm hi out ho hs hp
    refine ⟨1, ?_⟩
    rw [whilomref02_Sorted.l0, if_neg (by simp; omega)]
    rw [List.take_of_length_le (by omega)] at hp
    rw [eq_sortI hp hs]
  | succ m ih =>
    intro i hm hi out ho hs hp
    have hlt : i < xs.length := by omega
    obtain ⟨K, hK⟩ := l1_ev (List.getElem?_eq_getElem hlt) hl ho hs hp (fun out' h1 h2 h3 => ih (i + 1) (by omega) (by omega) out' h1 h2 h3) out.length (Nat.le_refl _) (fun b hb => by simp at hb)
    refine ⟨K + 1, ?_⟩
    rw [whilomref02_Sorted.l0, if_pos (by simp; omega), List.length_map]
    exact hK
theorem sorted_ev {xs : List (Int × Int)} (hl : xs.length ≤ 100) : ∃ K, whilomref02_Sorted.f K (xs.map toS) = some ((sortI xs).map toS) :=
  l0_ev hl xs.length 0 (by simp) (Nat.zero_le _) [] rfl List.Pairwise.nil (by simp)
/-! The best one. -/
def pickI (sg : Int) (o x : Int × Int) : Int × Int := if sg * cmI x o < 0 then x else o
def bestI (sg : Int) (o : Int × Int) (l : List (Int × Int)) : Int × Int := l.foldl (pickI sg) o
theorem best_turn {sg : Int} (hg : sg = 1 ∨ sg = -1) (x o y : Int × Int) (h : ¬ sg * cmI x o < 0) (h' : sg * cmI y o < 0) : ¬ sg * cmI x y < 0 := by
  have a1 := cmI_neg x o
  have a2 := cmI_pos x o
  have b1 := cmI_neg y o
  have b2 := cmI_pos y o
  have c1 := cmI_neg x y
  have c2 := cmI_pos x y
  rcases hg with rfl | rfl <;> omega
theorem best_refl (sg : Int) (o : Int × Int) : ¬ sg * cmI o o < 0 := by
  have : cmI o o = 0 := by have := cmI_neg o o; have := cmI_pos o o; omega
  rw [this]; simp
theorem best_spec {sg : Int} (hg : sg = 1 ∨ sg = -1) : ∀ (l : List (Int × Int)) (o : Int × Int), bestI sg o l ∈ o :: l ∧ ∀ x ∈ o :: l, ¬ sg * cmI x (bestI sg o l) < 0
  | [], o => ⟨List.mem_cons_self, fun x hx => by
      rcases List.mem_cons.1 hx with rfl | hx
      · exact best_refl sg _
      · cases hx⟩
  | y :: l, o => by
    obtain ⟨h1, h2⟩ := best_spec hg l (pickI sg o y)
    have e : bestI sg o (y :: l) = bestI sg (pickI sg o y) l := rfl
    rw [e]
    have hp := h2 _ List.mem_cons_self
    have three : ∀ x, ¬ sg * cmI x (pickI sg o y) < 0 → ¬ sg * cmI x (bestI sg (pickI sg o y) l) < 0 := by
      intro x hx
      by_cases hlt : sg * cmI (bestI sg (pickI sg o y) l) (pickI sg o y) < 0
      · exact best_turn hg _ _ _ hx hlt
      · generalize bestI sg (pickI sg o y) l = M at *
        generalize pickI sg o y = p at *
        have a1 := cmI_neg x p
        have a2 := cmI_pos x p
        have b1 := cmI_neg M p
        have b2 := cmI_pos M p
        have c1 := cmI_neg x M
        have c2 := cmI_pos x M
        have d1 := cmI_neg p M
        have d2 := cmI_pos p M
        rcases hg with rfl | rfl <;> omega
    refine ⟨?_, fun x hx => ?_⟩
    · rcases List.mem_cons.1 h1 with h | h
      · rw [h]
        unfold pickI
        split <;> simp
      · simp [h]
    · rcases List.mem_cons.1 hx with rfl | hx
      · refine three _ ?_
        unfold pickI
        split
        · next h =>
          have a1 := cmI_neg y x
          have a2 := cmI_pos y x
          have b1 := cmI_neg x y
          have b2 := cmI_pos x y
          rcases hg with rfl | rfl <;> omega
        · exact best_refl sg _
      · rcases List.mem_cons.1 hx with rfl | hx
        · refine three _ ?_
          unfold pickI
          split
          · exact best_refl sg _
          · next h => exact h
        · exact h2 _ (List.mem_cons_of_mem _ hx)
theorem least_first (o : Int × Int) (l : List (Int × Int)) : (sortI (o :: l))[0]? = some (bestI 1 o l) := by
  obtain ⟨h1, h2⟩ := best_spec (Or.inl rfl) l o
  have hlen := sortI_length (o :: l)
  rw [List.length_cons] at hlen
  have h0 : 0 < (sortI (o :: l)).length := by omega
  rw [List.getElem?_eq_getElem h0]
  have hm : (sortI (o :: l))[0] ∈ o :: l := (sortI_perm _).mem_iff.1 (List.getElem_mem h0)
  have hM := (sortI_perm (o :: l)).mem_iff.2 h1
  obtain ⟨j, hj, e⟩ := List.getElem_of_mem hM
  have hle : leI (sortI (o :: l))[0] (bestI 1 o l) = true := by
    rw [← e]
    rcases Nat.eq_zero_or_pos j with rfl | hp
    · exact leI_refl _
    · exact List.pairwise_iff_getElem.1 (sortI_sorted (o :: l)) 0 j h0 hj hp
  have := h2 _ hm
  refine congrArg some (leI_anti hle ?_)
  have c1 := cmI_neg (sortI (o :: l))[0] (bestI 1 o l)
  rw [leI_iff] at *
  omega
theorem most_last (o : Int × Int) (l : List (Int × Int)) : (sortI (o :: l))[l.length]? = some (bestI (-1) o l) := by
  obtain ⟨h1, h2⟩ := best_spec (Or.inr rfl) l o
  have hlen := sortI_length (o :: l)
  rw [List.length_cons] at hlen
  have h0 : l.length < (sortI (o :: l)).length := by omega
  rw [List.getElem?_eq_getElem h0]
  have hm : (sortI (o :: l))[l.length] ∈ o :: l := (sortI_perm _).mem_iff.1 (List.getElem_mem h0)
  have hM := (sortI_perm (o :: l)).mem_iff.2 h1
  obtain ⟨j, hj, e⟩ := List.getElem_of_mem hM
  have hle : leI (bestI (-1) o l) (sortI (o :: l))[l.length] = true := by
    rw [← e]
    rcases Nat.lt_or_eq_of_le (show j ≤ l.length by omega) with hp | rfl
    · exact List.pairwise_iff_getElem.1 (sortI_sorted (o :: l)) j l.length hj h0 hp
    · exact leI_refl _
  have := h2 _ hm
  refine congrArg some (leI_anti ?_ hle)
  have c1 := cmI_pos (sortI (o :: l))[l.length] (bestI (-1) o l)
  rw [leI_iff] at *
  omega
end Go.Proofs.YtddmlhcjbifkoaaDoor.Sort
