/- What Right asks of an entry: the outcomes. No program. No conditions. -/
import Derived.Test.YtccfjjaljckinaaRRightPM
namespace Go.Proofs.Ytccfjjaljckinaa.Tag
open Go.RowKit Go.Lib Go.Proofs.Ytccfjjaljckinaa.Mem Go.Proofs.Ytccfjjaljckinaa.IMap Go.Proofs.YtccfjjaljckinaaW.PrintWords Go.Proofs.Ytccfjjaljckinaa.PTagActs
set_option linter.unusedVariables false
theorem rowCases (lasts : List Int) (xi xg : Int) (b : Bool) : xi < 0 ∨ (¬ xi < 0 ∧ (lasts.length : Int) ≤ xi) ∨ (∃ n : Nat, xi = n ∧ n < lasts.length ∧ xg < 1) ∨ (∃ (n : Nat) (v : Int), xi = n ∧ lasts[n]? = some v ∧ ¬ xg < 1 ∧ v < xg) ∨
    (∃ (n : Nat) (v : Int), xi = n ∧ lasts[n]? = some v ∧ ¬ xg < 1 ∧ ¬ v < xg ∧ b = true) ∨ (∃ (n : Nat) (v : Int), xi = n ∧ lasts[n]? = some v ∧ ¬ xg < 1 ∧ ¬ v < xg ∧ b = false) := by
  by_cases h0 : xi < 0
  · exact Or.inl h0
  by_cases h1 : (lasts.length : Int) ≤ xi
  · exact Or.inr (Or.inl ⟨h0, h1⟩)
  have hn : xi.toNat < lasts.length := by omega
  have he : xi = xi.toNat := by omega
  by_cases h2 : xg < 1
  · exact Or.inr (Or.inr (Or.inl ⟨_, he, hn, h2⟩))
  have hv := List.getElem?_eq_getElem hn
  by_cases h3 : lasts[xi.toNat] < xg
  · exact Or.inr (Or.inr (Or.inr (Or.inl ⟨_, _, he, hv, h2, h3⟩)))
  cases b
  · exact Or.inr (Or.inr (Or.inr (Or.inr (Or.inr ⟨_, _, he, hv, h2, h3, rfl⟩))))
  · exact Or.inr (Or.inr (Or.inr (Or.inr (Or.inl ⟨_, _, he, hv, h2, h3, rfl⟩))))
theorem idCases (serial xd xk : Int) (xn b : Bool) : xd < 0 ∨ (¬ xd < 0 ∧ serial ≤ xd) ∨ (¬ xd < 0 ∧ ¬ serial ≤ xd ∧ b = true) ∨ (¬ xd < 0 ∧ ¬ serial ≤ xd ∧ b = false ∧ xn = false ∧ xk ≠ 0) ∨
    (¬ xd < 0 ∧ ¬ serial ≤ xd ∧ b = false ∧ xn = false ∧ xk = 0) ∨ (¬ xd < 0 ∧ ¬ serial ≤ xd ∧ b = false ∧ xn = true) := by
  by_cases h0 : xd < 0
  · exact Or.inl h0
  by_cases h1 : serial ≤ xd
  · exact Or.inr (Or.inl ⟨h0, h1⟩)
  cases b
  · cases xn
    · by_cases h2 : xk = 0
      · exact Or.inr (Or.inr (Or.inr (Or.inr (Or.inl ⟨h0, h1, rfl, rfl, h2⟩))))
      · exact Or.inr (Or.inr (Or.inr (Or.inl ⟨h0, h1, rfl, rfl, h2⟩)))
    · exact Or.inr (Or.inr (Or.inr (Or.inr (Or.inr ⟨h0, h1, rfl, rfl⟩))))
  · exact Or.inr (Or.inr (Or.inl ⟨h0, h1, rfl⟩))
theorem fine_row {serial : Int} {lasts : List Int} {l : List Listed} {k n : Nat} {v xi xg xt xk xd : Int} {xn : Bool} (ha : ¬ ((prevT l k).any (fun y => decide (xt ≤ y))) = true) (he : xi = n) (hv : lasts[n]? = some v) (h2 : ¬ xg < 1) (h3 : ¬ v < xg)
    (hb : (l.take k).any (fun y => y.r.i == xi) = false) (h5 : ¬ xd < 0) (h6 : ¬ serial ≤ xd) (hi : (l.take k).any (fun y => y.o.id == xd) = false) (h7 : xn = false → xk = 0) : ¬ rowBad serial lasts l k ⟨⟨xi, xg⟩, ⟨xt, xn, xk, xd⟩⟩ := by
  have hn := (List.getElem?_eq_some_iff.1 hv).1
  rintro (h | h | h | h | ⟨u, hu, h⟩ | h | h | h | h | ⟨h, h'⟩)
  · exact ha h
  · have h : xi < 0 := h
    omega
  · have h : (lasts.length : Int) ≤ xi := h
    omega
  · exact h2 h
  · have hu : lasts[xi.toNat]? = some u := hu
    have h : u < xg := h
    rw [he, Int.toNat_natCast, hv] at hu
    injection hu with hu
    omega
  · have h : (l.take k).any (fun y => y.r.i == xi) = true := h
    rw [hb] at h; cases h
  · exact h5 h
  · exact h6 h
  · have h : (l.take k).any (fun y => y.o.id == xd) = true := h
    rw [hi] at h; cases h
  · exact h' (h7 h)

theorem outcomes {serial : Int} {lasts : List Int} {l : List Listed} {k : Nat} {xi xg xt xk xd : Int} {xn bF : Bool} (hb : (l.take k).any (fun y => y.r.i == xi) = bF) (ha : ¬ ((prevT l k).any (fun y => decide (xt ≤ y))) = true) :
    (decide (xi < 0) = true ∧ rowBad serial lasts l k ⟨⟨xi, xg⟩, ⟨xt, xn, xk, xd⟩⟩) ∨ (decide (xi < 0) = false ∧ decide ((lasts.length : Int) ≤ xi) = true ∧ rowBad serial lasts l k ⟨⟨xi, xg⟩, ⟨xt, xn, xk, xd⟩⟩) ∨
    (decide (xi < 0) = false ∧ decide ((lasts.length : Int) ≤ xi) = false ∧ decide (xg < 1) = true ∧ rowBad serial lasts l k ⟨⟨xi, xg⟩, ⟨xt, xn, xk, xd⟩⟩) ∨
    (∃ (n : Nat) (v : Int), (0 : Int) ≤ xi ∧ xi < lasts.length ∧ xi.toNat = n ∧ lasts[n]? = some v ∧ decide (xi < 0) = false ∧ decide ((lasts.length : Int) ≤ xi) = false ∧ decide (xg < 1) = false ∧ decide (v < xg) = true ∧ rowBad serial lasts l k ⟨⟨xi, xg⟩, ⟨xt, xn, xk, xd⟩⟩) ∨
    (∃ (n : Nat) (v : Int), (0 : Int) ≤ xi ∧ xi < lasts.length ∧ xi.toNat = n ∧ lasts[n]? = some v ∧ decide (xi < 0) = false ∧ decide ((lasts.length : Int) ≤ xi) = false ∧ decide (xg < 1) = false ∧ decide (v < xg) = false ∧ bF = true ∧ rowBad serial lasts l k ⟨⟨xi, xg⟩, ⟨xt, xn, xk, xd⟩⟩) ∨
    (∃ (n : Nat) (v : Int), (0 : Int) ≤ xi ∧ xi < lasts.length ∧ xi.toNat = n ∧ lasts[n]? = some v ∧ decide (xi < 0) = false ∧ decide ((lasts.length : Int) ≤ xi) = false ∧ decide (xg < 1) = false ∧ decide (v < xg) = false ∧ bF = false ∧ (xi = n ∧ lasts[n]? = some v ∧ ¬ xg < 1 ∧ ¬ v < xg)) := by
  have F : ∀ {p : Prop} [Decidable p], ¬ p → decide p = false := fun h => decide_eq_false h
  have T : ∀ {p : Prop} [Decidable p], p → decide p = true := fun h => decide_eq_true h
  rcases rowCases lasts xi xg bF with h | ⟨h0, h⟩ | ⟨n, he, hn, h⟩ | ⟨n, v, he, hv, h2, h⟩ | ⟨n, v, he, hv, h2, h3, h⟩ | ⟨n, v, he, hv, h2, h3, h⟩
  · exact Or.inl ⟨T h, Or.inr (Or.inl h)⟩
  · exact Or.inr (Or.inl ⟨F h0, T h, Or.inr (Or.inr (Or.inl h))⟩)
  · exact Or.inr (Or.inr (Or.inl ⟨F (by omega), F (by omega), T h, Or.inr (Or.inr (Or.inr (Or.inl h)))⟩))
  · have hn := (List.getElem?_eq_some_iff.1 hv).1
    exact Or.inr (Or.inr (Or.inr (Or.inl ⟨n, v, by omega, by omega, by omega, hv, F (by omega), F (by omega), F h2, T h, Or.inr (Or.inr (Or.inr (Or.inr (Or.inl ⟨v, by show lasts[xi.toNat]? = _; rw [he, Int.toNat_natCast, hv], h⟩))))⟩)))
  · have hn := (List.getElem?_eq_some_iff.1 hv).1
    exact Or.inr (Or.inr (Or.inr (Or.inr (Or.inl ⟨n, v, by omega, by omega, by omega, hv, F (by omega), F (by omega), F h2, F h3, h, Or.inr (Or.inr (Or.inr (Or.inr (Or.inr (Or.inl (hb.trans h))))))⟩))))
  · have hn := (List.getElem?_eq_some_iff.1 hv).1
    exact Or.inr (Or.inr (Or.inr (Or.inr (Or.inr ⟨n, v, by omega, by omega, by omega, hv, F (by omega), F (by omega), F h2, F h3, h, he, hv, h2, h3⟩))))

theorem rows_succ {serial : Int} {lasts : List Int} {l : List Listed} {k : Nat} {x : Listed} (h : ∀ (j : Nat) (y : Listed), j < k → l[j]? = some y → ¬ rowBad serial lasts l j y) (hx : l[k]? = some x) (hn : ¬ rowBad serial lasts l k x) :
    ∀ (j : Nat) (y : Listed), j < k + 1 → l[j]? = some y → ¬ rowBad serial lasts l j y := by
  intro j y hj hy
  rcases Nat.lt_or_ge j k with hjk | hjk
  · exact h j y hjk hy
  · have e : j = k := by omega
    subst e
    rw [hx] at hy
    injection hy with hy
    subst hy
    exact hn
theorem ne_beq {a b : Int} (h : a ≠ b) : (a == b) = false := beq_eq_false_iff_ne.2 h
end Go.Proofs.Ytccfjjaljckinaa.Tag
