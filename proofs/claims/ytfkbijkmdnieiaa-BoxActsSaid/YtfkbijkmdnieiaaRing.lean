/- A pile in memory (a ring): what its blocks hold, and what a write at a place makes of it. Plain facts on lists and arrays. No conditions. -/
import Derived.Test.YtfkbijkmdnieiaaMem
namespace Go.Proofs.Ytfkbijkmdnieiaa.Ring
open Go.Proofs.Ytfkbijkmdnieiaa.Mem

/-- What is let go, and what is left, when v is laid upon vs. -/
def pushed {α : Type} (L : Nat) (vs : List α) (v : α) : List α × Option α :=
  if L = 0 then (vs, some v) else if vs.length = L then (vs.tail ++ [v], vs.head?) else (vs ++ [v], none)

/-- The ring's cells: value i lies at the place (f + i) % L. -/
def Holds {α : Type} (enc : α → List Value) (sz L f : Nat) (cs : Array Value) (vs : List α) : Prop :=
  cs.size = L * sz ∧ ∀ i v, vs[i]? = some v → ∀ j u, (enc v)[j]? = some u → cs[((f + i) % L) * sz + j]? = some u

/-- cs' is cs, but the cells of place x are those of us. -/
def Wrote (sz x : Nat) (us : List Value) (cs cs' : Array Value) : Prop :=
  cs'.size = cs.size ∧ (∀ j u, us[j]? = some u → cs'[x * sz + j]? = some u) ∧ ∀ k, (k < x * sz ∨ x * sz + sz ≤ k) → cs'[k]? = cs[k]?

structure IsPile {α : Type} (enc : α → List Value) (sz E T : Nat) (w : World) (B R L f : Nat) (vs : List α) : Prop where
  head : Blk w B #[.slice (some ⟨R, 0, none⟩) L L, .int .i64 f, .int .i64 vs.length] T
  ring : ∃ cs, Blk w R cs E ∧ Holds enc sz L f cs vs
  le : vs.length ≤ L
  most : L ≤ 10000
  first : f < L ∨ f = 0
  apart : B ≠ R

section
variable {α : Type} {enc : α → List Value} {sz E T L f : Nat} {w w' : World} {B R : Nat} {vs : List α} {cs cs' : Array Value}

theorem mod_ne {L f i n : Nat} (hi : i < n) (hn : n < L) : (f + i) % L ≠ (f + n) % L := by
  intro h
  have h1 := Nat.div_add_mod (f + i) L
  have h2 := Nat.div_add_mod (f + n) L
  have hq : L * ((f + n) / L) = L * ((f + i) / L) + (n - i) := by omega
  have : L ∣ (n - i) := by
    have a : L ∣ L * ((f + n) / L) := Nat.dvd_mul_right _ _
    have b : L ∣ L * ((f + i) / L) := Nat.dvd_mul_right _ _
    rw [hq] at a
    exact (Nat.dvd_add_right b).1 a
  have := Nat.le_of_dvd (by omega) this
  omega

theorem place_lt {x y j sz : Nat} (hj : j < sz) (h : x ≠ y) : x * sz + j < y * sz ∨ y * sz + sz ≤ x * sz + j := by
  rcases Nat.lt_or_gt_of_ne h with h | h
  · left
    have : (x + 1) * sz ≤ y * sz := Nat.mul_le_mul_right _ h
    rw [Nat.succ_mul] at this; omega
  · right
    have : (y + 1) * sz ≤ x * sz := Nat.mul_le_mul_right _ h
    rw [Nat.succ_mul] at this; omega

theorem holds_push (hlen : ∀ v, (enc v).length = sz) (h : Holds enc sz L f cs vs) (hn : vs.length < L) {v : α} (hw : Wrote sz ((f + vs.length) % L) (enc v) cs cs') : Holds enc sz L f cs' (vs ++ [v]) := by
  obtain ⟨h1, h2⟩ := h
  obtain ⟨w1, w2, w3⟩ := hw
  refine ⟨by rw [w1, h1], fun i u hi j x hj => ?_⟩
  have hjs : j < sz := by rw [← hlen u]; exact (List.getElem?_eq_some_iff.1 hj).1
  by_cases hlt : i < vs.length
  · rw [List.getElem?_append_left hlt] at hi
    rw [w3 _ (place_lt hjs (mod_ne hlt hn))]
    exact h2 i u hi j x hj
  · have hi2 := (List.getElem?_eq_some_iff.1 hi).1
    simp at hi2
    have : i = vs.length := by omega
    subst this
    have : u = v := by simpa using hi.symm
    subst this
    exact w2 j x hj

theorem holds_drop (h : Holds enc sz L f cs vs) : Holds enc sz L ((f + 1) % L) cs vs.tail := by
  obtain ⟨h1, h2⟩ := h
  refine ⟨h1, fun i u hi j x hj => ?_⟩
  have e : ((f + 1) % L + i) % L = (f + (i + 1)) % L := by
    rw [Nat.mod_add_mod]; congr 1; omega
  rw [e]
  exact h2 (i + 1) u (by simpa using hi) j x hj

theorem holds_pop (hlen : ∀ v, (enc v).length = sz) (h : Holds enc sz L f cs vs) (hn : vs.length ≤ L) (h0 : 0 < vs.length) {us : List Value} (hw : Wrote sz ((f + (vs.length - 1)) % L) us cs cs') : Holds enc sz L f cs' vs.dropLast := by
  obtain ⟨h1, h2⟩ := h
  obtain ⟨w1, _, w3⟩ := hw
  refine ⟨by rw [w1, h1], fun i u hi j x hj => ?_⟩
  have hjs : j < sz := by rw [← hlen u]; exact (List.getElem?_eq_some_iff.1 hj).1
  have hi2 := (List.getElem?_eq_some_iff.1 hi).1
  simp at hi2
  rw [w3 _ (place_lt hjs (mod_ne (by omega) (by omega)))]
  refine h2 i u ?_ j x hj
  rw [List.getElem?_dropLast] at hi
  simpa [hi2] using hi

theorem holds_nil (hs : cs.size = L * sz) : Holds enc sz L 0 cs ([] : List α) := ⟨hs, by simp⟩

theorem wrote_one {x : Nat} {u : Value} (hx : x < cs.size) : Wrote 1 x [u] cs (cs.setIfInBounds x u) := by
  refine ⟨by simp, fun j v hj => ?_, fun k hk => ?_⟩
  · match j, hj with
    | 0, hj => simp at hj; subst hj; simp [hx]
  · rw [Array.getElem?_setIfInBounds]
    rw [if_neg (by omega)]

theorem wrote_two {x : Nat} {u v : Value} (hx : x * 2 + 1 < cs.size) : Wrote 2 x [u, v] cs ((cs.setIfInBounds (x * 2) u).setIfInBounds (x * 2 + 1) v) := by
  refine ⟨by simp, fun j y hj => ?_, fun k hk => ?_⟩
  · match j, hj with
    | 0, hj =>
      simp at hj; subst hj
      rw [Array.getElem?_setIfInBounds, if_neg (by omega), Array.getElem?_setIfInBounds, if_pos (by omega)]
      simp; omega
    | 1, hj =>
      simp at hj; subst hj
      rw [Array.getElem?_setIfInBounds, if_pos rfl]
      simp [hx]
  · rw [Array.getElem?_setIfInBounds, if_neg (by omega), Array.getElem?_setIfInBounds, if_neg (by omega)]

theorem IsPile.keep {S : Nat → Prop} (h : IsPile enc sz E T w B R L f vs) (hc : Chg S w w') (hB : ¬ S B) (hR : ¬ S R) : IsPile enc sz E T w' B R L f vs := by
  obtain ⟨cs, h1, h2⟩ := h.ring
  exact ⟨h.head.keep hc hB, ⟨cs, h1.keep hc hR, h2⟩, h.le, h.most, h.first, h.apart⟩
theorem IsPile.ltB (h : IsPile enc sz E T w B R L f vs) : B < w.heap.size := h.head.lt
theorem IsPile.ltR (h : IsPile enc sz E T w B R L f vs) : R < w.heap.size := by
  obtain ⟨cs, h1, _⟩ := h.ring
  exact h1.lt
theorem IsPile.drewN (h : IsPile enc sz E T w B R L f vs) (n : Nat) : IsPile enc sz E T (w.drewN n) B R L f vs :=
  ⟨h.head, h.ring, h.le, h.most, h.first, h.apart⟩
end

section
variable {α : Type} {enc : α → List Value} {sz E T L f : Nat} {w w' : World} {B R : Nat} {vs : List α}
/-- What a push with room leaves: by what its blocks hold. -/
theorem fin_room (hlen : ∀ v, (enc v).length = sz) (h : IsPile enc sz E T w B R L f vs) {v : α} (hn : vs.length < L)
    (hB : ∃ c, Blk w' B c T ∧ c = #[.slice (some ⟨R, 0, none⟩) L L, .int .i64 f, .int .i64 ((vs.length : Int) + 1)])
    (hR : ∀ cs, Blk w R cs E → cs.size = L * sz → ∃ cs', Blk w' R cs' E ∧ Wrote sz ((f + vs.length) % L) (enc v) cs cs') : IsPile enc sz E T w' B R L f (vs ++ [v]) := by
  obtain ⟨cs, h1, h2⟩ := h.ring
  obtain ⟨c, h3, rfl⟩ := hB
  obtain ⟨cs', h4, h5⟩ := hR cs h1 h2.1
  have e : ((vs ++ [v]).length : Int) = (vs.length : Int) + 1 := by simp
  exact ⟨by rw [e]; exact h3, ⟨cs', h4, holds_push hlen h2 hn h5⟩, by simp; omega, h.most, h.first, h.apart⟩
theorem fin_full (hlen : ∀ v, (enc v).length = sz) (h : IsPile enc sz E T w B R L f vs) {v : α} (hn : vs.length = L) (hL : 0 < L)
    (hB : ∃ c, Blk w' B c T ∧ c = #[.slice (some ⟨R, 0, none⟩) L L, .int .i64 (((f + 1) % L : Nat) : Int), .int .i64 (L : Int)])
    (hR : ∀ cs, Blk w R cs E → cs.size = L * sz → ∃ cs', Blk w' R cs' E ∧ Wrote sz (((f + 1) % L + (L - 1)) % L) (enc v) cs cs') : IsPile enc sz E T w' B R L ((f + 1) % L) (vs.tail ++ [v]) := by
  obtain ⟨cs, h1, h2⟩ := h.ring
  obtain ⟨c, h3, rfl⟩ := hB
  obtain ⟨cs', h4, h5⟩ := hR cs h1 h2.1
  have ht : vs.tail.length = L - 1 := by simp; omega
  have e : ((vs.tail ++ [v]).length : Int) = (L : Int) := by simp; omega
  rw [← ht] at h5
  exact ⟨by rw [e]; exact h3, ⟨cs', h4, holds_push hlen (holds_drop h2) (by omega) h5⟩, by simp; omega, h.most, Or.inl (Nat.mod_lt _ hL), h.apart⟩
theorem fin_pop (hlen : ∀ v, (enc v).length = sz) (h : IsPile enc sz E T w B R L f vs) (h0 : 0 < vs.length) {us : List Value}
    (hB : ∃ c, Blk w' B c T ∧ c = #[.slice (some ⟨R, 0, none⟩) L L, .int .i64 f, .int .i64 ((vs.length : Int) - 1)])
    (hR : ∀ cs, Blk w R cs E → cs.size = L * sz → ∃ cs', Blk w' R cs' E ∧ Wrote sz ((f + (vs.length - 1)) % L) us cs cs') : IsPile enc sz E T w' B R L f vs.dropLast := by
  obtain ⟨cs, h1, h2⟩ := h.ring
  obtain ⟨c, h3, rfl⟩ := hB
  obtain ⟨cs', h4, h5⟩ := hR cs h1 h2.1
  have hle := h.le
  have e : (vs.dropLast.length : Int) = (vs.length : Int) - 1 := by simp; omega
  exact ⟨by rw [e]; exact h3, ⟨cs', h4, holds_pop hlen h2 h.le h0 h5⟩, by simp; omega, h.most, h.first, h.apart⟩
end

theorem pushed_len {α : Type} (L : Nat) (vs : List α) (v : α) (h : vs.length ≤ L) : (pushed L vs v).1.length ≤ L := by
  unfold pushed
  split
  · exact h
  · split
    · simp; omega
    · simp; omega

end Go.Proofs.Ytfkbijkmdnieiaa.Ring
