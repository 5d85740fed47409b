/- What is read out of an argument's memory reads by its kind: strings, slices of any kind. No conditions. -/
import Derived.Deep.Slices
import Derived.Deep.Strs
import Derived.WideShapes
import Derived.OpenShut
import Derived.ChangeSame
import Derived.Test.YtddmlhcjbifkoaaDoorWWords
namespace Go.Proofs.YtddmlhcjbifkoaaDoor.Open
open Go.Deep Go.ChangeShapes Go.WideShapes Go.Proofs.YtddmlhcjbifkoaaDoorW.PrintWords

section
variable {H : Type} {enc : TypeId × Value → H} {P : Program} {w : World} {base : Nat} {spare : Nat → Bool} {held : Bool}

/-- A value's cells, if they are read as data of type t, are of the kind d. -/
def Fits {α : Type} (enc : TypeId × Value → H) (P : Program) (w : World) (base : Nat) (spare : Nat → Bool) (held : Bool) (t : TypeId) (d : Kd α) (p : α → Prop) : Prop :=
  d.sz = P.cellsOf t ∧ ∀ n cs x, DataW.trod enc P w base spare held n t cs = some x → ∃ y, d.K w y cs ∧ p y

theorem fits_string {t : TypeId} (ht : P.underlying t = some .string) (hc : P.cellsOf t = 1) : Fits enc P w base spare held t Kd.string (fun s => s.size ≤ maxLen) := by
  refine ⟨by rw [hc]; rfl, fun n cs x h => ?_⟩
  obtain ⟨s, rfl, _, hs⟩ := DataW.trod_string ht h
  exact ⟨s, rfl, hs⟩

theorem fits_int {t : TypeId} {k : IntKind} (ht : P.underlying t = some (.int k)) (hc : P.cellsOf t = 1) : Fits enc P w base spare held t (Kd.int k) (fun z => (Lit.int k z).wf = true) := by
  refine ⟨by rw [hc]; rfl, fun n cs x h => ?_⟩
  obtain ⟨z, rfl, _, hz⟩ := DataW.trod_int ht h
  exact ⟨z, rfl, hz⟩

theorem fits_bool {t : TypeId} (ht : P.underlying t = some .bool) (hc : P.cellsOf t = 1) : Fits enc P w base spare held t Kd.bool (fun _ => True) := by
  refine ⟨by rw [hc]; rfl, fun n cs x h => ?_⟩
  obtain ⟨z, rfl, _⟩ := DataW.trod_bool ht h
  exact ⟨z, rfl, trivial⟩

theorem open_row {α : Type} {d : Kd α} {t e : TypeId} {p : α → Prop} (ht : P.underlying t = some (.slice e)) (he : Fits enc P w base spare held e d p)
    {n : Nat} {cs : List Value} {x : DataW H × List MemPlace} (h : DataW.trod enc P w base spare held n t cs = some x) :
    ∃ A len cap xs, cs = [.slice A len cap] ∧ len ≤ cap ∧ cap ≤ maxLen ∧ d.C w A len xs ∧ ∀ y ∈ xs, p y := by
  rcases open_slice ht h with ⟨rfl, _⟩ | ⟨a, len, cap, m, n', D, Pl, rfl, hb, hl, hm, hmm, rfl, hx⟩
  · exact ⟨none, 0, 0, [], rfl, Nat.le_refl _, by decide, Kd.C_nil d w, by simp⟩
  · obtain ⟨hs, hf⟩ := he
    have hml : len ≤ m := by rw [hmm]; split <;> omega
    have all : ∀ i, i < len → ∃ y, ∃ cs', d.K w y cs' ∧ p y ∧ ∀ j u, cs'[j]? = some u → w.cell? (a.add (i * d.sz + j)) = some u := by
      intro i hi
      obtain ⟨cs', h1, h2⟩ := hx i (by omega)
      obtain ⟨y, hy, py⟩ := hf _ _ _ h2
      refine ⟨y, cs', hy, py, fun j u hj => ?_⟩
      obtain ⟨_, hlen, hc⟩ := World.cells?_some h1
      have hj' : j < P.cellsOf e := by
        have := (List.getElem?_eq_some_iff.1 hj).1
        omega
      have := hc j hj'
      rw [hj, Go.Deep.add_add] at this
      rw [hs]; exact this
    have build : ∀ k, k ≤ len → ∃ xs : List α, xs.length = k ∧ ∀ i y, xs[i]? = some y → p y ∧ ∃ cs', d.K w y cs' ∧ ∀ j u, cs'[j]? = some u → w.cell? (a.add (i * d.sz + j)) = some u := by
      intro k
      induction k with
      | zero => exact fun _ => ⟨[], rfl, by simp⟩
      | succ k ih =>
        intro hk
        obtain ⟨xs, h1, h2⟩ := ih (by omega)
        obtain ⟨y, cs', h3, h4, h5⟩ := all k (by omega)
        refine ⟨xs ++ [y], by simp [h1], fun i z hi => ?_⟩
        by_cases hik : i < k
        · rw [List.getElem?_append_left (by omega)] at hi
          exact h2 i z hi
        · have hi2 := (List.getElem?_eq_some_iff.1 hi).1
          simp [h1] at hi2
          have : i = k := by omega
          subst this
          have : z = y := by simpa [h1] using hi.symm
          subst this
          exact ⟨h4, cs', h3, h5⟩
    obtain ⟨xs, h1, h2⟩ := build len (Nat.le_refl _)
    refine ⟨some a, len, cap, xs, rfl, hl, hm, ⟨h1, by unfold maxLen at hm; omega, fun _ => ⟨a, rfl, fun j y hj => ?_⟩⟩, fun y hy => ?_⟩
    · obtain ⟨_, cs', h3, h5⟩ := h2 j y hj
      exact ⟨cs', d.K_len h3, h3, h5⟩
    · obtain ⟨i, hi⟩ := List.getElem?_of_mem hy
      exact (h2 i y hi).1

theorem fits_slice {α : Type} {d : Kd α} {t e : TypeId} {p : α → Prop} (ht : P.underlying t = some (.slice e)) (hc : P.cellsOf t = 1) (he : Fits enc P w base spare held e d p) :
    Fits enc P w base spare held t (Kd.slice e d) (fun xs => ∀ y ∈ xs, p y) := by
  refine ⟨by rw [hc]; rfl, fun n cs x h => ?_⟩
  obtain ⟨A, len, cap, xs, rfl, hl, _, hr, hp⟩ := open_row ht he h
  have := Kd.C_len hr
  subst this
  exact ⟨xs, ⟨A, cap, rfl, hl, hr⟩, hp⟩

/-- Two in a row: an array of two. -/
theorem fits_arr2 {α : Type} {d : Kd α} {t e : TypeId} {p : α → Prop} (ht : P.underlying t = some (.array 2 e)) (hc : P.cellsOf t = 2 * P.cellsOf e) (he : Fits enc P w base spare held e d p) :
    Fits enc P w base spare held t (Kd.pair d d) (fun x => p x.1 ∧ p x.2) := by
  obtain ⟨hs, hf⟩ := he
  refine ⟨by show d.sz + d.sz = _; omega, fun n cs x h => ?_⟩
  obtain ⟨xs, m, _, _, hl, hx, hi⟩ := DataW.trod_array ht h
  have h0 := hi 0 (by omega)
  have h1 := hi 1 (by omega)
  rw [List.getElem?_eq_getElem (by omega)] at h0 h1
  obtain ⟨y0, k0, p0⟩ := hf _ _ _ h0
  obtain ⟨y1, k1, p1⟩ := hf _ _ _ h1
  refine ⟨(y0, y1), ⟨_, _, ?_, k0, k1⟩, p0, p1⟩
  have e1 : (cs.drop (P.cellsOf e)).take (P.cellsOf e) = cs.drop (P.cellsOf e) := List.take_of_length_le (by simp; omega)
  rw [Nat.zero_mul, List.drop_zero, Nat.one_mul, e1, List.take_append_drop]

theorem fits_struct2 {α β : Type} {d0 : Kd α} {d1 : Kd β} {t : TypeId} {f0 f1 : Field} {p0 : α → Prop} {p1 : β → Prop} (ht : P.underlying t = some (.struct #[f0, f1])) (hc : P.cellsOf t = P.cellsOf f0.type + P.cellsOf f1.type)
    (o0 : f0.offset = 0) (o1 : f1.offset = P.cellsOf f0.type) (h0 : Fits enc P w base spare held f0.type d0 p0) (h1 : Fits enc P w base spare held f1.type d1 p1) :
    Fits enc P w base spare held t (Kd.pair d0 d1) (fun x => p0 x.1 ∧ p1 x.2) := by
  refine ⟨by show d0.sz + d1.sz = _; rw [h0.1, h1.1, hc], fun n cs x h => ?_⟩
  obtain ⟨y0, y1, m, _, hl, t0, t1⟩ := trod_struct2 ht h
  obtain ⟨a, ka, pa⟩ := h0.2 _ _ _ t0
  obtain ⟨b, kb, pb⟩ := h1.2 _ _ _ t1
  refine ⟨(a, b), ⟨_, _, ?_, ka, kb⟩, pa, pb⟩
  have e1 : (cs.drop (P.cellsOf f0.type)).take (P.cellsOf f1.type) = cs.drop (P.cellsOf f0.type) := List.take_of_length_le (by simp; omega)
  rw [o0, o1, List.drop_zero, e1, List.take_append_drop]

theorem fits_iso {α β : Type} {d : Kd α} {t : TypeId} {p : α → Prop} (f : β → α) (g : α → β) (hfg : ∀ x, f (g x) = x) (h : Fits enc P w base spare held t d p) : Fits enc P w base spare held t (Kd.iso d f) (fun x => p (f x)) := by
  refine ⟨h.1, fun n cs x hx => ?_⟩
  obtain ⟨y, ky, py⟩ := h.2 _ _ _ hx
  exact ⟨g y, by show d.K w (f (g y)) cs; rw [hfg]; exact ky, by show p (f (g y)); rw [hfg]; exact py⟩

theorem fits_any {α : Type} {d : Kd α} {t : TypeId} {p : α → Prop} (h : Fits enc P w base spare held t d p) : Fits enc P w base spare held t d (fun _ => True) :=
  ⟨h.1, fun n cs x hx => let ⟨y, ky, _⟩ := h.2 n cs x hx; ⟨y, ky, trivial⟩⟩

/-- An argument that is a slice of any kind, opened. -/
theorem open_arg {α : Type} {d : Kd α} {t e : TypeId} {p : α → Prop} {a : Option Addr} {len cap : Nat} {y : DataW H} {ps : List MemPlace} (ht : P.underlying t = some (.slice e)) (he : Fits enc P w base spare held e d p)
    (h : DataW.Trod enc P w base spare held t (.slice a len cap) y ps) : ∃ xs, d.C w a len xs ∧ len ≤ cap ∧ ∀ y ∈ xs, p y := by
  obtain ⟨n, hn⟩ := h
  obtain ⟨A, l, c, xs, hcs, hl, _, hr, hp⟩ := open_row ht he hn
  simp [Value.cells] at hcs
  obtain ⟨rfl, rfl, rfl⟩ := hcs
  exact ⟨xs, hr, hl, hp⟩
end

end Go.Proofs.YtddmlhcjbifkoaaDoor.Open
