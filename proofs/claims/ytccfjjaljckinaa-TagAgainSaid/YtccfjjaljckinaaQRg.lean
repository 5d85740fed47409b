/- A region whose order is drawn, by one word on what holds when some of its operations are done: each operation is shown once. No conditions. -/
import Derived.Orders
import Derived.KernelRfl
import Derived.WalkKit
namespace Go.Proofs.Ytccfjjaljckinaa.Rg
open Go.RowKit
section
variable {P : Program} {ops : Array Oper} {Q : Exit → Act → World → Prop} {a : Act} {w : World}

theorem any_inv (I : Array Bool → Act → World → Prop)
    (hs : ∀ i l a w, I l a w → i ∈ Region.ready .any ops l → wpOp P ops Q i (I (l.setIfInBounds i true)) a w)
    (he : ∀ l a w, I l a w → Region.ready .any ops l = [] → Q .normal a w) : ∀ (fuel : Nat) (l : Array Bool) (a : Act) (w : World), ops.size ≤ l.size → ((List.range ops.size).filter (fun i => !l.getD i true)).length ≤ fuel → I l a w → wpAny P .any ops Q fuel l a w
  | 0, l, a, w, hz, hl, h => by
    have hr : Region.ready .any ops l = [] := by
      apply List.eq_nil_iff_forall_not_mem.2
      intro i hi
      obtain ⟨h1, o, ho, _⟩ := mem_ready.1 hi
      have : i ∈ (List.range ops.size).filter (fun i => !l.getD i true) := by
        rw [List.mem_filter]
        exact ⟨List.mem_range.2 (by have := (Array.getElem?_eq_some_iff.1 ho).1; exact this), by rw [h1]; rfl⟩
      have := List.length_pos_of_mem this
      omega
    exact ⟨hr, he l a w h hr⟩
  | fuel + 1, l, a, w, hz, hl, h => by
    refine ⟨he l a w h, fun i hi => ?_⟩
    have hw := hs i l a w h hi
    have ih : ∀ a' w', I (l.setIfInBounds i true) a' w' → wpAny P .any ops Q fuel (l.setIfInBounds i true) a' w' := fun a' w' h' => by
      refine any_inv I hs he fuel _ a' w' (by simpa using hz) ?_ h'
      obtain ⟨h1, o, ho, _⟩ := mem_ready.1 hi
      have hio : i < ops.size := (Array.getElem?_eq_some_iff.1 ho).1
      have hlt : ((List.range ops.size).filter (fun j => !(l.setIfInBounds i true).getD j true)).length < ((List.range ops.size).filter (fun j => !l.getD j true)).length := by
        have e : (List.range ops.size).filter (fun j => !(l.setIfInBounds i true).getD j true) = ((List.range ops.size).filter (fun j => !l.getD j true)).filter (fun j => decide (j ≠ i)) := by
          rw [List.filter_filter]
          apply List.filter_congr
          intro j hj
          by_cases hji : j = i
          · subst hji
            have : (l.setIfInBounds j true).getD j true = true := by
              unfold Array.getD
              split <;> simp
            simp [this]
          · have : (l.setIfInBounds i true).getD j true = l.getD j true := by
              exact getD_set_ne true (fun e => hji e.symm)
            rw [this]
            simp [hji]
        rw [e]
        have hmem : i ∈ (List.range ops.size).filter (fun j => !l.getD j true) := by
          rw [List.mem_filter]; exact ⟨List.mem_range.2 hio, by rw [h1]; rfl⟩
        have : ∀ (L : List Nat), i ∈ L → (L.filter (fun j => decide (j ≠ i))).length < L.length := by
          intro L
          induction L with
          | nil => intro h; cases h
          | cons x L ihL =>
            intro h
            rw [List.filter_cons]
            by_cases hx : x = i
            · subst hx
              simp only [ne_eq, not_true_eq_false, decide_false, Bool.false_eq_true, if_false, List.length_cons]
              have := List.length_filter_le (fun j => decide (j ≠ x)) L
              simp only [ne_eq] at this
              omega
            · rcases List.mem_cons.1 h with h | h
              · exact absurd h.symm hx
              · have := ihL h
                simp only [ne_eq, hx, not_false_eq_true, decide_true, if_true, List.length_cons]
                simp only [ne_eq] at this
                omega
        exact this _ hmem
      omega
    exact wpOp_mono ih hw

/-- The act with some slots filled. -/
def fillA (a : Act) : List Tmp → List Value → Act
  | n :: ns, v :: vs => fillA (a.put (some n) v) ns vs
  | _, _ => a
theorem put_self (a : Act) (n : Tmp) : a.put (some n) (a.tmps.getD n undef) = a := by
  unfold Act.put
  cases a with
  | mk t d =>
    simp only [Act.mk.injEq, and_true]
    apply Array.ext
    · simp
    · intro j h1 h2
      rw [Array.getElem_setIfInBounds]
      split
      · rename_i e
        subst e
        unfold Array.getD
        rw [dif_pos h2]
        rfl
      · rfl
theorem fill_self (a : Act) : ∀ ns : List Tmp, fillA a ns (ns.map fun t => a.tmps.getD t undef) = a
  | [] => rfl
  | n :: ns => by
    rw [List.map_cons]
    unfold fillA
    rw [put_self]
    exact fill_self a ns
def upd (d : Nat → Bool) (i : Nat) : Nat → Bool := fun j => j == i || d j
theorem upd_same (d : Nat → Bool) (i : Nat) : upd d i i = true := by simp [upd]
/-- Each operation, once. -/
def StepsL (S : Nat → Oper → Prop) : Nat → List Oper → Prop
  | _, [] => True
  | i, o :: os => S i o ∧ StepsL S (i + 1) os
theorem StepsL.at_ {S : Nat → Oper → Prop} : ∀ {k : Nat} {os : List Oper}, StepsL S k os → ∀ {i : Nat} {o : Oper}, os[i]? = some o → S (k + i) o
  | k, [], _, i, o, h => by simp at h
  | k, x :: os, hs, 0, o, h => by simp at h; subst h; exact hs.1
  | k, x :: os, hs, i + 1, o, h => by
    have := StepsL.at_ hs.2 (i := i) (o := o) (by simpa using h)
    rw [show k + (i + 1) = k + 1 + i from by omega]
    exact this
/-- An operation comes up: it runs (or its guard says no), and K holds behind it. -/
structure Does (P : Program) (ops : Array Oper) (o : Oper) (a : Act) (w : World) (K : Act → World → Prop) (Q : Exit → Act → World → Prop) : Prop where
  out : if Region.wanted o (yielded ops a.tmps) = true then Oper.wp P o a w K Q else K (a.put o.dst undef) w
theorem Does.event {o : Oper} {K : Act → World → Prop} {w1 : World} {v : Value} (hw : Region.wanted o (yielded ops a.tmps) = true) (hrun : (execOp a.eval o).run P w = .ok (.value v) w1) (h : K (a.put o.dst v) w1) : Does P ops o a w K Q := by
  constructor
  rw [if_pos hw]
  unfold Oper.wp
  rw [hrun]
  exact h
theorem Does.off {o : Oper} {K : Act → World → Prop} (hw : Region.wanted o (yielded ops a.tmps) = false) (h : K (a.put o.dst undef) w) : Does P ops o a w K Q := by
  constructor
  rw [if_neg (by rw [hw]; decide)]
  exact h
/-- F d vs w: what holds when the operations of d are done, the slots ns holding vs. -/
theorem region_holes {id : Nat} {os : List Oper} (ns : List Tmp) (F : (Nat → Bool) → List Value → World → Prop) (hm : P.follows .mixedOrders = true)
    (hb : ∀ i ∈ List.range os.length, ∀ o, os[i]? = some o → ∀ e ∈ o.after, Region.binds .any e = true → e.on < i)
    (h0 : F (fun _ => false) (ns.map fun t => a.tmps.getD t undef) w.drew)
    (hs : StepsL (fun i o => ∀ d vs w', d i = false → (∀ e ∈ o.after, Region.binds .any e = true → d e.on = true) → F d vs w' → ∀ K : Act → World → Prop, (∀ vs' w'', F (upd d i) vs' w'' → K (fillA a ns vs') w'') →
      Does P os.toArray o (fillA a ns vs) w' K Q) 0 os)
    (he : ∀ d vs w', (∀ i, i < os.length → d i = true) → F d vs w' → Q .normal (fillA a ns vs) w') : (Code.region id os.toArray true).wp P Q a w := by
  refine wp_region_any hm ?_
  refine any_inv (fun l a' w' => l.size = os.length ∧ ∃ vs, a' = fillA a ns vs ∧ F (fun i => l.getD i false) vs w') ?_ ?_ _ _ _ _ (by simp) ?_ ⟨by simp, _, (fill_self a ns).symm, ?_⟩
  · rintro i l a' w' ⟨hl, vs, rfl, hF⟩ hi
    obtain ⟨h1, o, ho, hd⟩ := mem_ready.1 hi
    have ho' : os[i]? = some o := by simpa using ho
    have hio : i < os.length := (List.getElem?_eq_some_iff.1 ho').1
    have hst := StepsL.at_ hs ho'
    rw [Nat.zero_add] at hst
    have hdi : l.getD i false = false := by
      unfold Array.getD at h1 ⊢
      rw [dif_pos (by omega)] at h1 ⊢
      exact h1
    have := hst (fun i => l.getD i false) vs w' hdi hd hF (fun a' w'' => (l.setIfInBounds i true).size = os.length ∧ ∃ vs', a' = fillA a ns vs' ∧ F (fun j => (l.setIfInBounds i true).getD j false) vs' w'') (fun vs' w'' hF' => ⟨by simpa using hl, vs', rfl, by
      have e : (fun j => (l.setIfInBounds i true).getD j false) = upd (fun i => l.getD i false) i := by
        funext j
        unfold upd
        by_cases hji : j = i
        · subst hji
          unfold Array.getD
          rw [dif_pos (by rw [Array.size_setIfInBounds]; omega)]
          simp
        · rw [getD_set_ne false (fun e => hji e.symm)]
          simp [hji]
      rw [e]; exact hF'⟩)
    unfold wpOp
    rw [ho]
    simp only
    have this := this.out
    split at this
    · rename_i hw; rw [if_pos hw]; exact Or.inl this
    · rename_i hw; rw [if_neg hw]; exact this
  · rintro l a' w' ⟨hl, vs, rfl, hF⟩ hr
    refine he _ vs w' (fun i => ?_) hF
    induction i using Nat.strongRecOn with
    | _ i ih =>
      intro hi
      by_cases hd : l.getD i false = true
      · exact hd
      · exfalso
        have : i ∈ Region.ready .any os.toArray l := by
          refine mem_ready.2 ⟨?_, os[i], by simp, fun e he' hbd => ?_⟩
          · unfold Array.getD at hd ⊢
            rw [dif_pos (by omega)] at hd ⊢
            simpa using hd
          · have hlt := hb i (List.mem_range.2 hi) os[i] (List.getElem?_eq_getElem hi) e he' hbd
            exact ih e.on hlt (by omega)
        rw [hr] at this
        cases this
  · exact Nat.le_trans (List.length_filter_le _ _) (by simp)
  · have e : (fun i => (Array.replicate os.toArray.size false).getD i false) = fun _ => false := by
      funext i
      unfold Array.getD
      split <;> simp
    rw [e]
    exact h0
end
end Go.Proofs.Ytccfjjaljckinaa.Rg
