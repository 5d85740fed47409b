/- What is read out of an argument's memory reads by its kind, more of it: structs of three and four fields, arrays of three, aggregates by value. No conditions. -/
import Derived.Test.YtddmlhcjbifkoaaDoorOpen2
import Derived.Deep.Slices
namespace Go.Proofs.YtddmlhcjbifkoaaDoor.Open
open Go.Deep Go.ChangeShapes Go.WideShapes Go.Proofs.YtddmlhcjbifkoaaDoorW.PrintWords

theorem okWide_array {P : Program} {w : World} {r : Reach} {base : Nat} {t : TypeId} {v : Value} {n : Nat} {e : TypeId} (ht : P.underlying t = some (.array n e)) (h : Value.okWide P w r base t v) : ∃ cs, v = .agg cs ∧ cs.size = P.cellsOf t := by
  simp only [Value.okWide, ht] at h
  obtain ⟨cs, h1, h2, _⟩ := h
  exact ⟨cs, h1, h2⟩

section
variable {H : Type} {enc : TypeId × Value → H} {P : Program} {w : World} {base : Nat} {spare : Nat → Bool} {held : Bool}

theorem trod_struct3 {t : TypeId} {f0 f1 f2 : Field} {fuel : Nat} {cs : List Value} {x : DataW H × List MemPlace} (ht : P.underlying t = some (.struct #[f0, f1, f2])) (h : DataW.trod enc P w base spare held fuel t cs = some x) :
    ∃ y0 y1 y2 n, cs.length = P.cellsOf t ∧ DataW.trod enc P w base spare held n f0.type ((cs.drop f0.offset).take (P.cellsOf f0.type)) = some y0 ∧
      DataW.trod enc P w base spare held n f1.type ((cs.drop f1.offset).take (P.cellsOf f1.type)) = some y1 ∧ DataW.trod enc P w base spare held n f2.type ((cs.drop f2.offset).take (P.cellsOf f2.type)) = some y2 := by
  obtain ⟨xs, n, _, rfl, hl, hlen, hf⟩ := DataW.trod_struct ht h
  match xs, hlen with
  | [y0, y1, y2], _ => exact ⟨y0, y1, y2, n, hl, by simpa using hf 0 f0 rfl, by simpa using hf 1 f1 rfl, by simpa using hf 2 f2 rfl⟩
theorem trod_struct4 {t : TypeId} {f0 f1 f2 f3 : Field} {fuel : Nat} {cs : List Value} {x : DataW H × List MemPlace} (ht : P.underlying t = some (.struct #[f0, f1, f2, f3])) (h : DataW.trod enc P w base spare held fuel t cs = some x) :
    ∃ y0 y1 y2 y3 n, cs.length = P.cellsOf t ∧ DataW.trod enc P w base spare held n f0.type ((cs.drop f0.offset).take (P.cellsOf f0.type)) = some y0 ∧
      DataW.trod enc P w base spare held n f1.type ((cs.drop f1.offset).take (P.cellsOf f1.type)) = some y1 ∧ DataW.trod enc P w base spare held n f2.type ((cs.drop f2.offset).take (P.cellsOf f2.type)) = some y2 ∧
      DataW.trod enc P w base spare held n f3.type ((cs.drop f3.offset).take (P.cellsOf f3.type)) = some y3 := by
  obtain ⟨xs, n, _, rfl, hl, hlen, hf⟩ := DataW.trod_struct ht h
  match xs, hlen with
  | [y0, y1, y2, y3], _ => exact ⟨y0, y1, y2, y3, n, hl, by simpa using hf 0 f0 rfl, by simpa using hf 1 f1 rfl, by simpa using hf 2 f2 rfl, by simpa using hf 3 f3 rfl⟩

theorem fits_struct3 {α β γ : Type} {d0 : Kd α} {d1 : Kd β} {d2 : Kd γ} {t : TypeId} {f0 f1 f2 : Field} {p0 : α → Prop} {p1 : β → Prop} {p2 : γ → Prop} (ht : P.underlying t = some (.struct #[f0, f1, f2])) (hc : P.cellsOf t = P.cellsOf f0.type + (P.cellsOf f1.type + P.cellsOf f2.type))
    (o0 : f0.offset = 0) (o1 : f1.offset = P.cellsOf f0.type) (o2 : f2.offset = P.cellsOf f0.type + P.cellsOf f1.type) (h0 : Fits enc P w base spare held f0.type d0 p0) (h1 : Fits enc P w base spare held f1.type d1 p1) (h2 : Fits enc P w base spare held f2.type d2 p2) :
    Fits enc P w base spare held t (Kd.pair d0 (Kd.pair d1 d2)) (fun x => p0 x.1 ∧ p1 x.2.1 ∧ p2 x.2.2) := by
  refine ⟨by show d0.sz + (d1.sz + d2.sz) = _; rw [h0.1, h1.1, h2.1, hc], fun n cs x h => ?_⟩
  obtain ⟨y0, y1, y2, m, hl, t0, t1, t2⟩ := trod_struct3 ht h
  obtain ⟨a, ka, pa⟩ := h0.2 _ _ _ t0
  obtain ⟨b, kb, pb⟩ := h1.2 _ _ _ t1
  obtain ⟨c, kc, pc⟩ := h2.2 _ _ _ t2
  refine ⟨(a, b, c), ⟨_, _, ?_, ka, _, _, rfl, kb, kc⟩, pa, pb, pc⟩
  rw [o0, o1, o2, List.drop_zero]
  have e2 : (cs.drop (P.cellsOf f0.type + P.cellsOf f1.type)).take (P.cellsOf f2.type) = cs.drop (P.cellsOf f0.type + P.cellsOf f1.type) := List.take_of_length_le (by simp; omega)
  rw [e2, ← List.drop_drop, List.take_append_drop, List.take_append_drop]
theorem fits_struct4 {α β γ δ : Type} {d0 : Kd α} {d1 : Kd β} {d2 : Kd γ} {d3 : Kd δ} {t : TypeId} {f0 f1 f2 f3 : Field} {p0 : α → Prop} {p1 : β → Prop} {p2 : γ → Prop} {p3 : δ → Prop} (ht : P.underlying t = some (.struct #[f0, f1, f2, f3]))
    (hc : P.cellsOf t = P.cellsOf f0.type + (P.cellsOf f1.type + (P.cellsOf f2.type + P.cellsOf f3.type)))
    (o0 : f0.offset = 0) (o1 : f1.offset = P.cellsOf f0.type) (o2 : f2.offset = P.cellsOf f0.type + P.cellsOf f1.type) (o3 : f3.offset = P.cellsOf f0.type + P.cellsOf f1.type + P.cellsOf f2.type)
    (h0 : Fits enc P w base spare held f0.type d0 p0) (h1 : Fits enc P w base spare held f1.type d1 p1) (h2 : Fits enc P w base spare held f2.type d2 p2) (h3 : Fits enc P w base spare held f3.type d3 p3) :
    Fits enc P w base spare held t (Kd.pair d0 (Kd.pair d1 (Kd.pair d2 d3))) (fun x => p0 x.1 ∧ p1 x.2.1 ∧ p2 x.2.2.1 ∧ p3 x.2.2.2) := by
  refine ⟨by show d0.sz + (d1.sz + (d2.sz + d3.sz)) = _; rw [h0.1, h1.1, h2.1, h3.1, hc], fun n cs x h => ?_⟩
  obtain ⟨y0, y1, y2, y3, m, hl, t0, t1, t2, t3⟩ := trod_struct4 ht h
  obtain ⟨a, ka, pa⟩ := h0.2 _ _ _ t0
  obtain ⟨b, kb, pb⟩ := h1.2 _ _ _ t1
  obtain ⟨c, kc, pc⟩ := h2.2 _ _ _ t2
  obtain ⟨d, kd, pd⟩ := h3.2 _ _ _ t3
  refine ⟨(a, b, c, d), ⟨_, _, ?_, ka, _, _, rfl, kb, _, _, rfl, kc, kd⟩, pa, pb, pc, pd⟩
  rw [o0, o1, o2, o3, List.drop_zero]
  have e3 : (cs.drop (P.cellsOf f0.type + P.cellsOf f1.type + P.cellsOf f2.type)).take (P.cellsOf f3.type) = cs.drop (P.cellsOf f0.type + P.cellsOf f1.type + P.cellsOf f2.type) := List.take_of_length_le (by simp; omega)
  rw [e3]
  simp only [← List.drop_drop, List.take_append_drop]

/-- Three in a row: an array of three. -/
theorem fits_arr3 {α : Type} {d : Kd α} {t e : TypeId} {p : α → Prop} (ht : P.underlying t = some (.array 3 e)) (hc : P.cellsOf t = 3 * P.cellsOf e) (he : Fits enc P w base spare held e d p) :
    Fits enc P w base spare held t (Kd.pair d (Kd.pair d d)) (fun x => p x.1 ∧ p x.2.1 ∧ p x.2.2) := by
  obtain ⟨hs, hf⟩ := he
  refine ⟨by show d.sz + (d.sz + d.sz) = _; omega, fun n cs x h => ?_⟩
  obtain ⟨xs, m, _, _, hl, hx, hi⟩ := DataW.trod_array ht h
  have h0 := hi 0 (by omega)
  have h1 := hi 1 (by omega)
  have h2 := hi 2 (by omega)
  rw [List.getElem?_eq_getElem (by omega)] at h0 h1 h2
  obtain ⟨y0, k0, p0⟩ := hf _ _ _ h0
  obtain ⟨y1, k1, p1⟩ := hf _ _ _ h1
  obtain ⟨y2, k2, p2⟩ := hf _ _ _ h2
  refine ⟨(y0, y1, y2), ⟨_, _, ?_, k0, _, _, rfl, k1, k2⟩, p0, p1, p2⟩
  have e1 : (cs.drop (2 * P.cellsOf e)).take (P.cellsOf e) = cs.drop (2 * P.cellsOf e) := List.take_of_length_le (by simp; omega)
  rw [Nat.zero_mul, List.drop_zero, Nat.one_mul, e1, show 2 * P.cellsOf e = P.cellsOf e + P.cellsOf e by omega, ← List.drop_drop, List.take_append_drop, List.take_append_drop]

/-- An argument that is an aggregate by value, opened. -/
theorem open_agg {α : Type} {d : Kd α} {t : TypeId} {p : α → Prop} {cs : Array Value} {y : DataW H} {ps : List MemPlace} (he : Fits enc P w base spare held t d p)
    (h : DataW.Trod enc P w base spare held t (.agg cs) y ps) : ∃ x, d.K w x cs.toList ∧ p x := by
  obtain ⟨n, hn⟩ := h
  obtain ⟨x, hk, hp⟩ := he.2 _ _ _ hn
  exact ⟨x, by simpa [Value.cells] using hk, hp⟩
end
theorem arr_of_list {cs : Array Value} {l : List Value} (h : cs.toList = l) : cs = l.toArray := by rw [← h]
end Go.Proofs.YtddmlhcjbifkoaaDoor.Open
