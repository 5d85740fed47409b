/- What the document's Right tells, in plain words, and that a table is made just then. No conditions. -/
import Derived.Test.YtccfjjaljckinaaRMakeCM
namespace Go.Proofs.Ytccfjjaljckinaa.Tag
open Go.RowKit Go.Lib Go.Proofs.Ytccfjjaljckinaa.Mem Go.Proofs.Ytccfjjaljckinaa.IMap
set_option linter.unusedVariables false

/-- The entry at i is one that Right refuses. -/
def rowBad (serial : Int) (lasts : List Int) (l : List Listed) (i : Nat) (x : Listed) : Prop :=
  ((prevT l i).any (fun y => decide (x.o.time ≤ y))) = true ∨ x.r.i < 0 ∨ (lasts.length : Int) ≤ x.r.i ∨ x.r.g < 1 ∨ (∃ v, lasts[x.r.i.toNat]? = some v ∧ v < x.r.g) ∨ (l.take i).any (fun y => y.r.i == x.r.i) = true ∨
    x.o.id < 0 ∨ serial ≤ x.o.id ∨ (l.take i).any (fun y => y.o.id == x.o.id) = true ∨ (x.o.ins = false ∧ x.o.key ≠ 0)
theorem bad_okAt {cap serial : Int} {lasts : List Int} {l : List Listed} {i : Nat} {x : Listed} (hx : l[i]? = some x) (h : rowBad serial lasts l i x) : ¬ okAt cap serial lasts l i := by
  intro hok
  obtain ⟨h1, h2⟩ := hok x hx
  rcases h with h | h
  · exact h1 h
  unfold rreviveE at h2
  split at h2
  · split at h2
    · cases h2
    · split at h2
      · cases h2
      · rename_i v hv
        have hl := (List.getElem?_eq_some_iff.1 hv).1
        simp only at h2
        split at h2
        · cases h2
        · rename_i ha
          split at h2
          · cases h2
          · rename_i hb
            simp only at ha hb hl
            rcases h with h | h | h | ⟨u, hu, h⟩ | h | h | h | h | h
            · omega
            · omega
            · exact ha (Or.inr (Or.inl h))
            · rw [hv] at hu; injection hu with hu; subst hu; exact ha (Or.inr (Or.inr h))
            · exact ha (Or.inl h)
            · exact hb (Or.inl h)
            · exact hb (Or.inr (Or.inl h))
            · exact hb (Or.inr (Or.inr (Or.inl h)))
            · exact hb (Or.inr (Or.inr (Or.inr h)))
  · rename_i hm; exact hm h2
theorem fine_okAt {cap serial : Int} {lasts : List Int} {l : List Listed} {i : Nat} {x : Listed} (hx : l[i]? = some x) (hcap : (l.length : Int) ≤ cap) (hso : Sorted (l.take i)) (h : ¬ rowBad serial lasts l i x) : okAt cap serial lasts l i := by
  intro y hy
  rw [hx] at hy; injection hy with hy; subst hy
  have hil := (List.getElem?_eq_some_iff.1 hx).1
  unfold rowBad at h
  have h1 : ¬ ((prevT l i).any (fun y => decide (x.o.time ≤ y))) = true := fun e => h (Or.inl e)
  refine ⟨h1, ?_⟩
  have hlt := before_all hso (by omega) h1
  have g1 : ¬ x.r.i < 0 := fun e => h (by simp [e])
  have g2 : ¬ (lasts.length : Int) ≤ x.r.i := fun e => h (by simp [e])
  have g3 : ¬ x.r.g < 1 := fun e => h (by simp [e])
  have hk : x.r.i.toNat < lasts.length := by omega
  unfold rreviveE
  have hm : rmay ⟨cap, serial, lasts, l.take i⟩ x.o.time = 0 := by
    unfold rmay
    simp only
    rw [if_neg (by rw [List.length_take]; omega), if_neg]
    rw [idxI_none (fun y hy => by have := hlt y hy; simp; omega)]
    omega
  rw [if_pos hm, if_neg g1]
  simp only
  rw [List.getElem?_eq_getElem hk]
  simp only
  rw [if_neg, if_neg]
  · intro e
    apply h
    rcases e with e | e | e | e
    · exact Or.inr (Or.inr (Or.inr (Or.inr (Or.inr (Or.inr (Or.inl e))))))
    · exact Or.inr (Or.inr (Or.inr (Or.inr (Or.inr (Or.inr (Or.inr (Or.inl e)))))))
    · exact Or.inr (Or.inr (Or.inr (Or.inr (Or.inr (Or.inr (Or.inr (Or.inr (Or.inl e))))))))
    · exact Or.inr (Or.inr (Or.inr (Or.inr (Or.inr (Or.inr (Or.inr (Or.inr (Or.inr e))))))))
  · intro e
    apply h
    rcases e with e | e | e
    · exact Or.inr (Or.inr (Or.inr (Or.inr (Or.inr (Or.inl e)))))
    · exact absurd e g3
    · exact Or.inr (Or.inr (Or.inr (Or.inr (Or.inl ⟨_, List.getElem?_eq_getElem hk, e⟩))))
theorem fine_sorted {serial : Int} {lasts : List Int} {l : List Listed} : ∀ (n : Nat), n ≤ l.length → (∀ i x, i < n → l[i]? = some x → ¬ rowBad serial lasts l i x) → Sorted (l.take n)
  | 0, _, _ => by rw [List.take_zero]; exact List.Pairwise.nil
  | n + 1, hn, h => by
    have hx : l[n]? = some l[n] := List.getElem?_eq_getElem (by omega)
    have ih := fine_sorted n (by omega) (fun i x hi hx => h i x (by omega) hx)
    have h1 := h n _ (by omega) hx
    have hb := before_all ih (by omega) (fun e => h1 (Or.inl e))
    rw [List.take_add_one, hx]
    refine List.pairwise_append.2 ⟨ih, List.pairwise_singleton _ _, fun a ha b hb' => ?_⟩
    simp at hb'
    subst hb'
    exact hb a ha
/-- Right's answer. -/
def RightP (cap serial : Int) (lasts : List Int) (l : List Listed) : Prop := ¬ headBad cap serial lasts l.length ∧ (∀ v ∈ lasts, 0 ≤ v ∧ v ≤ 4294967295) ∧ ∀ i x, l[i]? = some x → ¬ rowBad serial lasts l i x
theorem right_made {cap serial : Int} {lasts : List Int} {l : List Listed} (hs : In64 serial) (hn : lasts.length ≤ 1000) (hfl : ∀ x ∈ l, In64O x.o) (h : RightP cap serial lasts l) : ∃ u, makeR cap serial lasts l = some u ∧ Rel u ⟨cap, serial, lasts, l⟩ := by
  obtain ⟨h1, h2, h3⟩ := h
  have hc : 0 ≤ cap ∧ cap ≤ 65536 ∧ (l.length : Int) ≤ cap := by
    refine ⟨?_, ?_, ?_⟩
    · by_cases e : cap < 0
      · exact absurd (Or.inl e) h1
      · omega
    · by_cases e : 65536 < cap
      · exact absurd (Or.inr (Or.inl e)) h1
      · omega
    · by_cases e : cap < l.length
      · exact absurd (Or.inr (Or.inr (Or.inr (Or.inr e)))) h1
      · omega
  rw [makeR_revs h1 h2]
  refine revs_good cap serial lasts l hfl l.length 0 ⟨cap, serial, slotsOf lasts⟩ (by omega) (start_rel _ _ _) (start_good hc.1 hc.2.1 hs h2 hn) (fun i _ x hx => ?_)
  have hi := (List.getElem?_eq_some_iff.1 hx).1
  exact fine_okAt hx hc.2.2 (fine_sorted i (by omega) (fun j y _ hy => h3 j y hy)) (h3 i x hx) x hx
theorem right_none {cap serial : Int} {lasts : List Int} {l : List Listed} (hs : In64 serial) (hn : lasts.length ≤ 1000) (hfl : ∀ x ∈ l, In64O x.o) (h : ¬ RightP cap serial lasts l) : makeR cap serial lasts l = none := by
  by_cases h1 : headBad cap serial lasts l.length
  · exact makeR_head h1
  by_cases h2 : ∀ v ∈ lasts, 0 ≤ v ∧ v ≤ 4294967295
  · have h3 : ¬ ∀ i x, l[i]? = some x → ¬ rowBad serial lasts l i x := fun e => h ⟨h1, h2, e⟩
    obtain ⟨i, h3⟩ := Classical.not_forall.1 h3
    obtain ⟨x, h3⟩ := Classical.not_forall.1 h3
    obtain ⟨hx, h3⟩ := Classical.not_imp.1 h3
    have hbad := Classical.not_not.1 h3
    have hc : 0 ≤ cap ∧ cap ≤ 65536 := by
      refine ⟨?_, ?_⟩
      · by_cases e : cap < 0
        · exact absurd (Or.inl e) h1
        · omega
      · by_cases e : 65536 < cap
        · exact absurd (Or.inr (Or.inl e)) h1
        · omega
    rw [makeR_revs h1 h2]
    exact revs_none cap serial lasts l hfl l.length 0 ⟨cap, serial, slotsOf lasts⟩ (by omega) (start_rel _ _ _) (start_good hc.1 hc.2 hs h2 hn) ⟨i, Nat.zero_le _, bad_okAt hx hbad⟩
  · obtain ⟨v, h2⟩ := Classical.not_forall.1 h2
    obtain ⟨hv, h2⟩ := Classical.not_imp.1 h2
    exact makeR_last hv (by by_cases e : v < 0; exact Or.inl e; exact Or.inr (by omega))
end Go.Proofs.Ytccfjjaljckinaa.Tag
