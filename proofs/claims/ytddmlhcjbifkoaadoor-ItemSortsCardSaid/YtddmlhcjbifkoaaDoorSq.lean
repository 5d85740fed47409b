/- A region whose order is drawn, walked in one order of one's own: each operation is shown once, the order is checked once. No conditions. -/
import Derived.Test.YtddmlhcjbifkoaaDoorWTab
namespace Go.Proofs.YtddmlhcjbifkoaaDoor.Sq
open Go.RowKit Go.Proofs.YtddmlhcjbifkoaaDoorW.PrintLast
section
variable {P : Program} {ops : Array Oper} {Q : Exit → Act → World → Prop} {S : World → Prop} {cs : List Nat} {T : Bool × List (List Nat × List Nat)}

/-- Is the order one that may be taken? cs: what is carried out when nothing else may come up. -/
def ordOk (T : Bool × List (List Nat × List Nat)) (cs : List Nat) : List (Nat × Option Tmp) → List Bool → Bool
  | [], l => readyT T.2 l == []
  | (i, _) :: is, l => (if cs.contains i then readyT T.2 l == [i] else (T.1 && freeT T.2 l i && readyAt T.2 l i && closedT T.2 l)) && ordOk T cs is (l.set i true)
/-- What is left to be shown, in that order. -/
def Walk (P : Program) (ops : Array Oper) (Q : Exit → Act → World → Prop) (S : World → Prop) (cs : List Nat) : List (Nat × Option Tmp) → Act → World → Prop
  | [], a, w => Q .normal a w
  | (i, N) :: is, a, w => (cs.contains i = true ∧ ∃ o, ops[i]? = some o ∧ o.dst = N ∧ ∀ K : Act → World → Prop, (∀ a' w', S w' → (S w' → Walk P ops Q S cs is a' w') → K a' w') → if Region.wanted o (yielded ops a.tmps) = true then Oper.wp P o a w K Q else K (a.put N undef) w) ∨
    (cs.contains i = false ∧ ∃ o v, ops[i]? = some o ∧ o.dst = N ∧ YieldsIf P ops S o v a ∧ Walk P ops Q S cs is (a.put N v) w)
theorem last_of (hT : rtab .any ops = T) (hQ : ∀ c a N v w, Q (.panic c) (a.put N v) w → Q (.panic c) a w) : ∀ (is : List (Nat × Option Tmp)) (l : Array Bool) (a : Act) (w : World), ordOk T cs is l.toList = true → S w → Walk P ops Q S cs is a w → wpAnyLast P .any ops Q S [] is.length l a w
  | [], l, a, w, hok, _, h => done_ (done_of hT hok) h
  | (i, N) :: is, l, a, w, hok, hS, h => by
    unfold ordOk at hok
    rw [Bool.and_eq_true] at hok
    obtain ⟨h1, h2⟩ := hok
    have e : (l.setIfInBounds i true).toList = l.toList.set i true := Array.toList_setIfInBounds
    rcases h with ⟨hc, o, ho, rfl, hK⟩ | ⟨hc, o, v, ho, rfl, hy, hW⟩
    · rw [if_pos hc] at h1
      have h3 : Region.ready .any ops l = [i] := by
        have : readyB .any ops l (l.setIfInBounds i true) i = true := one_of hT (by rw [Bool.and_eq_true]; exact ⟨h1, by rw [e]; simp⟩)
        simp only [readyB, Bool.and_eq_true, beq_iff_eq] at this
        exact this.1
      refine wpAnyLast_ready h3 (by simp) (AllReadyL.cons ho (by simp) (fun K hK' => hK K (fun a' w' hS' hW' => hK' a' w' hS' (fun hS'' => ?_))) AllReadyL.nil)
      exact last_of hT hQ is _ a' w' (by rw [e]; exact h2) hS'' (hW' hS'')
    · rw [if_neg (by rw [hc]; decide)] at h1
      simp only [Bool.and_eq_true] at h1
      obtain ⟨⟨⟨h5, h6⟩, h7⟩, h8⟩ := h1
      have h9 := readyAt_mem h7 hT
      refine wpAnyLast_take ho (by subst hT; exact h5) (by subst hT; rw [free_eq]; exact h6) h9 (by subst hT; rw [closed_eq]; exact h8) (by simp [Region.lastB]) (fun c a w => hQ c a _ _ w) hy hS ?_
      exact last_of hT hQ is _ _ w (by rw [e]; exact h2) hS hW
/-- The region. -/
theorem region_ {id : Nat} {a : Act} {w : World} (S : World → Prop) (cs : List Nat) (ord : List (Nat × Option Tmp)) (hm : P.follows .mixedOrders = true) (hn : ops.size = ord.length) (hok : ordOk (rtab .any ops) cs ord (List.replicate ord.length false) = true)
    (hQ : ∀ c a N v w, Q (.panic c) (a.put N v) w → Q (.panic c) a w) (hS : S w.drew) (h : S w.drew → Walk P ops Q S cs ord a w.drew) : (Code.region id ops true).wp P Q a w := by
  refine start_ (n := ord.length) (S := S) (ds := []) (Array.replicate ord.length false) hm hn rfl hS (fun hS' => ?_)
  exact last_of rfl hQ ord _ a _ (by rw [Array.toList_replicate]; exact hok) hS' (h hS')
/-- An operation that yields wherever S holds. -/
theorem q_ {i : Nat} {is : List (Nat × Option Tmp)} {o : Oper} {N : Option Tmp} {v : Value} {a a' : Act} {w : World} (hc : cs.contains i = false) (ho : ops[i]? = some o) (hN : o.dst = N) (hw : Region.wanted o (yielded ops a.tmps) = true)
    (hrun : ∀ w', S w' → (execOp a.eval o).run P w' = .ok (.value v) w') (ha : a.put N v = a') (h : Walk P ops Q S cs is a' w) : Walk P ops Q S cs ((i, N) :: is) a w := by
  subst ha; subst hN
  exact Or.inr ⟨hc, o, v, ho, rfl, Or.inl ⟨hw, hrun⟩, h⟩
/-- One whose guard says no. -/
theorem o_ {i : Nat} {is : List (Nat × Option Tmp)} {o : Oper} {N : Option Tmp} {a a' : Act} {w : World} (hc : cs.contains i = false) (ho : ops[i]? = some o) (hN : o.dst = N) (hw : Region.wanted o (yielded ops a.tmps) = false)
    (ha : a.put N undef = a') (h : Walk P ops Q S cs is a' w) : Walk P ops Q S cs ((i, N) :: is) a w := by
  subst ha; subst hN
  exact Or.inr ⟨hc, o, undef, ho, rfl, Or.inr ⟨hw, rfl⟩, h⟩
/-- The same for one of cs. -/
theorem oc_ {i : Nat} {is : List (Nat × Option Tmp)} {o : Oper} {N : Option Tmp} {a a' : Act} {w : World} (hc : cs.contains i = true) (ho : ops[i]? = some o) (hN : o.dst = N) (hw : Region.wanted o (yielded ops a.tmps) = false)
    (ha : a.put N undef = a') (hS : S w) (h : Walk P ops Q S cs is a' w) : Walk P ops Q S cs ((i, N) :: is) a w := by
  subst ha; subst hN
  refine Or.inl ⟨hc, o, ho, rfl, fun K hK => ?_⟩
  rw [if_neg (by rw [hw]; decide)]
  exact hK _ _ hS (fun _ => h)
/-- A call by its contract. -/
theorem c_ {i : Nat} {is : List (Nat × Option Tmp)} {o : Oper} {N : Option Tmp} {a : Act} {w : World} {f : FuncId} {fn : Func} {as : Array Operand} {ts : Array TypeId} (args : Array Value) (hf : P.funcs[f]? = some fn) (hname : (fn.name == "runtime.NumGoroutine") = false) (hb : fn.body.isSome = true)
    (hc : cs.contains i = true) (ho : ops[i]? = some o) (hN : o.dst = N) (hw : Region.wanted o (yielded ops a.tmps) = true) (hop : o.op = .call { callee := .value (.func f), args := as, argTypes := ts }) (hargs : as.map a.eval = args)
    (h : Calls P f args w fun e w' => ∃ v a', e = .returned v ∧ a.put N v = a' ∧ S w' ∧ (S w' → Walk P ops Q S cs is a' w')) : Walk P ops Q S cs ((i, N) :: is) a w := by
  subst hN
  refine Or.inl ⟨hc, o, ho, rfl, fun K hK => ?_⟩
  refine goes_ (N := o.dst) hf hname hb args hw rfl hop hargs ?_
  refine h.mono fun e w' hh => ?_
  obtain ⟨v, a', e1, e2, hS, hW⟩ := hh
  subst e2
  exact ⟨v, e1, hK _ _ hS hW⟩
/-- An operation that yields a value and may make memory. -/
theorem v_ {i : Nat} {is : List (Nat × Option Tmp)} {o : Oper} {N : Option Tmp} {v : Value} {a a' : Act} {w w1 : World} (hc : cs.contains i = true) (ho : ops[i]? = some o) (hN : o.dst = N) (hw : Region.wanted o (yielded ops a.tmps) = true)
    (hrun : (execOp a.eval o).run P w = .ok (.value v) w1) (ha : a.put N v = a') (hS : S w1) (h : S w1 → Walk P ops Q S cs is a' w1) : Walk P ops Q S cs ((i, N) :: is) a w := by
  subst hN; subst ha
  refine Or.inl ⟨hc, o, ho, rfl, fun K hK => ?_⟩
  exact value_ (N := o.dst) hw rfl hrun (hK _ _ hS h)
/-- A store. -/
theorem s_ {i : Nat} {is : List (Nat × Option Tmp)} {o : Oper} {a : Act} {w w1 : World} (hc : cs.contains i = true) (ho : ops[i]? = some o) (hN : o.dst = none) (hw : Region.wanted o (yielded ops a.tmps) = true)
    (hrun : (execOp a.eval o).run P w = .ok .skip w1) (hS : S w1) (h : S w1 → Walk P ops Q S cs is a w1) : Walk P ops Q S cs ((i, none) :: is) a w := by
  refine Or.inl ⟨hc, o, ho, hN, fun K hK => ?_⟩
  have := skip_ (oi := o) (a := a) (w := w) (K := K) (P := P) (ops := ops) (Q := Q) hw hN hrun (hK _ _ hS h)
  exact this
/-- Any other operation, by a step of one's own. -/
theorem k_ {i : Nat} {is : List (Nat × Option Tmp)} {o : Oper} {N : Option Tmp} {a : Act} {w : World} (hc : cs.contains i = true) (ho : ops[i]? = some o) (hN : o.dst = N)
    (h : ∀ K : Act → World → Prop, (∀ a' w', S w' → (S w' → Walk P ops Q S cs is a' w') → K a' w') → if Region.wanted o (yielded ops a.tmps) = true then Oper.wp P o a w K Q else K (a.put N undef) w) : Walk P ops Q S cs ((i, N) :: is) a w :=
  Or.inl ⟨hc, o, ho, hN, h⟩
theorem e_ {a : Act} {w : World} (h : Q .normal a w) : Walk P ops Q S cs [] a w := h
end
end Go.Proofs.YtddmlhcjbifkoaaDoor.Sq
