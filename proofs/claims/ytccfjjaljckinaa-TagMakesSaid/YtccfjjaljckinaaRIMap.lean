/- A map from ints to ints in memory, as a function: look-ups, stores, deletions, how many. No conditions. -/
import Derived.Maps.OwnSet
import Derived.Maps.Views
import Derived.Maps.OwnOps
import Derived.Carry
import Derived.IntWalk
import Derived.DataShut
import Derived.Test.YtccfjjaljckinaaRMem
namespace Go.Proofs.Ytccfjjaljckinaa.IMap
open Go.RowKit Go.Maps Go.Proofs.Ytccfjjaljckinaa.Mem

def In64 (n : Int) : Prop := -9223372036854775808 ≤ n ∧ n ≤ 9223372036854775807
theorem wf_of {n : Int} (h : In64 n) : (Lit.int .i64 n).wf = true := (Lit.wf_int_iff .i64 n).2 h
theorem in64_of {n : Int} (h : (Lit.int .i64 n).wf = true) : In64 n := (Lit.wf_int_iff .i64 n).1 h

/-- Block b is a map that holds f, of s keys; at most n were ever stored. -/
def IMap (P : Program) (k e : TypeId) (w : World) (b n : Nat) (f : Int → Option Int) (s : Nat) : Prop :=
  ∃ D : DataW Unit, w.ownsMap P k (plainElem P e) b n D ∧ (∀ x : Int, In64 x → Maps.has D (.int .i64 x) = (f x).isSome) ∧
    (∀ x y, In64 x → f x = some y → D.atKey (.int .i64 x) (.lit (.int .i64 0)) = .lit (.int .i64 y)) ∧ Maps.size D = s

def upd (f : Int → Option Int) (x : Int) (y : Option Int) : Int → Option Int := fun z => if z = x then y else f z
theorem upd_same (f : Int → Option Int) (x : Int) (y : Option Int) : upd f x y x = y := by unfold upd; rw [if_pos rfl]
theorem upd_other {f : Int → Option Int} {x z : Int} {y : Option Int} (h : z ≠ x) : upd f x y z = f z := by unfold upd; rw [if_neg h]

theorem lit_ne {a b : Int} (h : a ≠ b) : (Lit.int .i64 a) ≠ (Lit.int .i64 b) := fun e => h (by injection e)

section
variable {P : Program} {t k e : TypeId} {w : World} {b n s : Nat} {f : Int → Option Int}

theorem IMap.block (h : IMap P k e w b n f s) : ∃ es clock, w.heap[b]? = some (.map es clock) := by
  obtain ⟨D, ⟨es, clock, h1, _⟩, _⟩ := h
  exact ⟨es, clock, h1⟩
theorem IMap.lt (h : IMap P k e w b n f s) : b < w.heap.size := by
  obtain ⟨es, clock, hb⟩ := h.block
  exact lt_of_block hb
theorem IMap.keep {w' : World} (h : IMap P k e w b n f s) (hb : w'.heap[b]? = w.heap[b]?) : IMap P k e w' b n f s := by
  obtain ⟨D, ⟨es, clock, h1, h2⟩, h3⟩ := h
  exact ⟨D, ⟨es, clock, hb.trans h1, h2⟩, h3⟩
theorem IMap.look (h : IMap P k e w b n f s) (ht : P.underlying t = some (.map k e)) (hk : P.underlying k = some (.int .i64)) (he : P.underlying e = some (.int .i64))
    (hz : (zeroValue e).run P w = .ok (.int .i64 0) w) {x : Int} (hx : In64 x) :
    (Instr.lookup t (.map (some b)) (.int .i64 x) true).run P w = .ok (.tuple #[.int .i64 ((f x).getD 0), .bool (f x).isSome]) w := by
  obtain ⟨D, h1, h2, h3, _⟩ := h
  obtain ⟨v, ps, hr, hv⟩ := h1.look_ok (int_keyed hk) ht hz (plainElem_int he (by decide)) (keyOf_int_mk hk (wf_of hx))
  obtain ⟨c, rfl, hc, _⟩ := plainElem_int_inv he hv
  rw [hr, h2 x hx]
  congr 4
  have hc1 : D.atKey (.int .i64 x) (.lit (.int .i64 0)) = .lit (.int .i64 c) := congrArg Prod.fst hc
  cases hf : f x with
  | none =>
    have hh := h2 x hx
    rw [hf] at hh
    rw [atKey_of_not_has hh] at hc1
    injection hc1 with hc1
    injection hc1 with _ hc1
    simp [hc1]
  | some y =>
    rw [h3 x y hx hf] at hc1
    injection hc1 with hc1
    injection hc1 with _ hc1
    simp [hc1]
theorem IMap.len (h : IMap P k e w b n f s) (ht : P.underlying t = some (.map k e)) (ty : TypeId) : (Builtin.len_ #[t] ty #[.map (some b)]).run P w = .ok (.int .i64 s) w := by
  obtain ⟨D, h1, _, _, rfl⟩ := h
  exact h1.len ht ty
theorem IMap.store (h : IMap P k e w b n f s) (ht : P.underlying t = some (.map k e)) (hk : P.underlying k = some (.int .i64)) (he : P.underlying e = some (.int .i64)) (hn : n < maxLen) {x y : Int} (hx : In64 x) (hy : In64 y) :
    ∃ w', (Instr.mapUpdate t (.map (some b)) (.int .i64 x) (.int .i64 y)).run P w = .ok () w' ∧ IMap P k e w' b (n + 1) (upd f x (some y)) (if (f x).isSome then s else s + 1) ∧ w.mapTurned w' b := by
  obtain ⟨D, h1, h2, h3, rfl⟩ := h
  obtain ⟨w', hr, r1, r2⟩ := h1.store (int_keyed hk) ht hn (keyOf_int_mk hk (wf_of hx)) (plainElem_int he (wf_of hy))
  refine ⟨w', hr, ⟨_, r1, fun z hz => ?_, fun z u hz hu => ?_, ?_⟩, r2⟩
  · by_cases hzx : z = x
    · subst hzx; rw [has_put_same h1.isMap (show WideAt.IsKeyLit (Lit.int .i64 _) from trivial), upd_same]; rfl
    · rw [has_put_other (lit_ne hzx), upd_other hzx, h2 z hz]
  · by_cases hzx : z = x
    · subst hzx; rw [upd_same] at hu; injection hu with hu; subst hu; rw [atKey_put_same h1.isMap (show WideAt.IsKeyLit (Lit.int .i64 _) from trivial)]
    · rw [upd_other hzx] at hu; rw [atKey_put_other (lit_ne hzx), h3 z u hz hu]
  · rw [size_put (h1.tidy (int_keyed hk)), h2 x hx]
theorem IMap.drop (h : IMap P k e w b n f s) (ht : P.underlying t = some (.map k e)) (hk : P.underlying k = some (.int .i64)) {x : Int} (hx : In64 x) (ty : TypeId) :
    ∃ w', (Builtin.delete_ #[t, k] ty #[.map (some b), .int .i64 x]).run P w = .ok (.tuple #[]) w' ∧ IMap P k e w' b n (upd f x none) (if (f x).isSome then s - 1 else s) ∧ w.mapTurned w' b := by
  obtain ⟨D, h1, h2, h3, rfl⟩ := h
  obtain ⟨w', hr, r1, r2⟩ := h1.drop (int_keyed hk) ht (keyOf_int_mk hk (wf_of hx)) ty
  refine ⟨w', hr, ⟨_, r1, fun z hz => ?_, fun z u hz hu => ?_, ?_⟩, r2⟩
  · by_cases hzx : z = x
    · subst hzx; rw [has_del_same, upd_same]; rfl
    · rw [has_del_other (lit_ne hzx), upd_other hzx, h2 z hz]
  · by_cases hzx : z = x
    · subst hzx; rw [upd_same] at hu; cases hu
    · rw [upd_other hzx] at hu; rw [atKey_del_other (lit_ne hzx), h3 z u hz hu]
  · have := size_del (k := .int .i64 x) (h1.tidy (int_keyed hk))
    rw [h2 x hx] at this
    split
    · rename_i hs; rw [hs] at this; simp at this; omega
    · rename_i hs; simp [hs] at this; omega
theorem IMap.made (w : World) : IMap P k e (w.alloc (.map #[] 0)) w.heap.size 0 (fun _ => none) 0 :=
  ⟨.map [], World.ownsMap_made w P k _, fun _ _ => rfl, fun _ _ _ h => (by cases h), rfl⟩
theorem IMap.tight (h : IMap P k e w b n f s) : IMap P k e w b s f s := by
  obtain ⟨D, ⟨es, clock, h1, h2, h3, h4⟩, h5, h6, h7⟩ := h
  refine ⟨D, ⟨es, clock, h1, h2, ?_, h4⟩, h5, h6, h7⟩
  rw [h4] at h7
  simp [Maps.size, Go.length_sorted] at h7
  omega
theorem turned_chg {w' : World} (h : w.mapTurned w' b) : Chg (fun k => k = b) w w' := by
  have g := h.grown
  exact ⟨g.os, g.tape, g.output, g.size, fun j hj hn => g.block j hj (fun e => hn (by injection e))⟩
end
end Go.Proofs.Ytccfjjaljckinaa.IMap
