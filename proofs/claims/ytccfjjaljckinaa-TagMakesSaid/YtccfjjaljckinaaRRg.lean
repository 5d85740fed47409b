/- A region whose order is drawn, by one word on what holds when some of its operations are done: each operation is shown once. No conditions. -/
import Derived.Orders
import Derived.KernelRfl
import Derived.WalkKit
namespace Go.Proofs.Ytccfjjaljckinaa.Rg
open Go.RowKit
section
variable {P : Program} {ops : Array Oper} {Q : Exit → Act → World → Prop} {a : Act} {w : World}

def upd (d : Nat → Bool) (i : Nat) : Nat → Bool := fun j => j == i || d j
theorem upd_same (d : Nat → Bool) (i : Nat) : upd d i i = true := by simp [upd]
/-- Each operation, once. -/
def StepsL (S : Nat → Oper → Prop) : Nat → List Oper → Prop
  | _, [] => True
  | i, o :: os => S i o ∧ StepsL S (i + 1) os
theorem StepsL.at_ {S : Nat → Oper → Prop} : ∀ {k : Nat} {os : List Oper}, StepsL S k os → ∀ {i : Nat} {o : Oper}, os[i]? = some o → S (k + i) o
  | k, [], _, i, o, h => by simp at h
  | k, x :: os, hs, 0, o, h => by simp at h; subst h; exact hs.1
  | k, x :: os, hs, i + 1, o, h => by
    have := StepsL.at_ hs.2 (i := i) (o := o) (by simpa using h)
    rw [show k + (i + 1) = k + 1 + i from by omega]
    exact this
/-- An operation comes up: it runs (or its guard says no), and K holds behind it. -/
structure Does (P : Program) (ops : Array Oper) (o : Oper) (a : Act) (w : World) (K : Act → World → Prop) (Q : Exit → Act → World → Prop) : Prop where
  out : if Region.wanted o (yielded ops a.tmps) = true then Oper.wp P o a w K Q else K (a.put o.dst undef) w
theorem Does.off {o : Oper} {K : Act → World → Prop} (hw : Region.wanted o (yielded ops a.tmps) = false) (h : K (a.put o.dst undef) w) : Does P ops o a w K Q := by
  constructor
  rw [if_neg (by rw [hw]; decide)]
  exact h
end
end Go.Proofs.Ytccfjjaljckinaa.Rg
