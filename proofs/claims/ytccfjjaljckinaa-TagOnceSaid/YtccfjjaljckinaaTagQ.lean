/- The calls on a table, each at every input: what they answer, and what they leave. -/
import Derived.Test.YtccfjjaljckinaaTagN
namespace Go.Proofs.Ytccfjjaljckinaa.Tag
open Go.RowKit Go.Lib Go.Shelf Go.Proofs.Ytccfjjaljckinaa.Mem Go.Proofs.Ytccfjjaljckinaa.IMap Go.Proofs.YtccfjjaljckinaaW.PrintWords

/-- A table at block B, all of whose blocks are among O. -/
def TabAt (w : World) (O : Nat → Prop) (B : Nat) (t : Tab) : Prop := ∃ M v, TabV w B M v t ∧ O B ∧ O M ∧ ∀ k, v.ownBlock = some k → O k
/-- O, and what was laid between two worlds. -/
def More (O : Nat → Prop) (w w' : World) (k : Nat) : Prop := O k ∨ (w.heap.size ≤ k ∧ k < w'.heap.size)

structure Ref where
  i : Int
  g : Int
structure Listed where
  r : Ref
  o : TOp
def In64O (o : TOp) : Prop := In64 o.time ∧ In64 o.key ∧ In64 o.id
def listed0 : Listed := ⟨⟨0, 0⟩, op0⟩
def aggL (l : Listed) : Value := aggListed l.r.i l.r.g l.o

def issueR (t : Tab) (x : Int) (ins : Bool) (key : Int) : Listed × Int × Tab :=
  if mayE t x = 0 then (⟨⟨freeI t, lastI t + 1⟩, issueOp t x ins key⟩, 0, issueT t x ins key) else (listed0, mayE t x, t)
def dropR (t : Tab) (r : Ref) : TOp × Bool × Tab :=
  match findOf t r.i r.g with
  | none => (op0, false, t)
  | some i => match t.slots[i]? with
    | some s => (s.op, true, { t with slots := t.slots.set i ⟨s.last, 0, op0⟩ })
    | none => (op0, false, t)
def moveR (t : Tab) (r : Ref) (x : Int) : Int × Tab :=
  match findOf t r.i r.g with
  | none => (13, t)
  | some i => match t.slots[i]? with
    | some s => if (timesOf t.slots x).isSome ∧ x ≠ s.op.time then (11, t) else (0, { t with slots := t.slots.set i (moveSlot s x) })
    | none => (13, t)
def reviveE (t : Tab) (l : Listed) : Int :=
  if mayE t l.o.time = 0 then
    (if l.r.i < 0 ∨ (t.slots.length : Int) ≤ l.r.i then 13 else match t.slots[l.r.i.toNat]? with
      | none => 13
      | some s => if 0 < s.gen ∨ l.r.g < 1 ∨ s.last < l.r.g then 13 else if knownOf t l.o.id = false ∨ (l.o.ins = false ∧ l.o.key ≠ 0) then 2 else 0)
  else mayE t l.o.time
def reviveT (t : Tab) (l : Listed) : Tab :=
  if reviveE t l = 0 then { t with slots := t.slots.set l.r.i.toNat ⟨((t.slots[l.r.i.toNat]?).map Slot.last).getD 0, l.r.g, l.o⟩ } else t

section
variable {w : World} {O : Nat → Prop} {B : Nat} {t : Tab}
theorem TabAt.good (h : TabAt w O B t) : Good t := by obtain ⟨M, v, h, _⟩ := h; exact h.good
theorem TabAt.keep {S : Nat → Prop} {w' : World} (h : TabAt w O B t) (hc : Chg S w w') (hs : ∀ k, O k → ¬ S k) : TabAt w' O B t := by
  obtain ⟨M, v, h, h1, h2, h3⟩ := h
  exact ⟨M, v, h.keep (hc.block B h.head.lt (hs B h1)) (hc.block M h.map.lt (hs M h2)) (fun k hk => hc.block k (h.ltV hk) (hs k (h3 k hk))), h1, h2, h3⟩
theorem TabAt.below {w' : World} (h : TabAt w O B t) (hb : Below w.heap.size w w') : TabAt w' O B t := h.keep (Chg.of_below (S := fun _ => False) hb) (fun _ _ h => h)
theorem TabAt.more {w1 w2 : World} (h : TabAt w O B t) : TabAt w (More O w1 w2) B t := by
  obtain ⟨M, v, h, h1, h2, h3⟩ := h
  exact ⟨M, v, h, Or.inl h1, Or.inl h2, fun k hk => Or.inl (h3 k hk)⟩
theorem TabAt.ltB (h : TabAt w O B t) : B < w.heap.size := by obtain ⟨M, v, h, _⟩ := h; exact h.head.lt

theorem newAt (c : Int) (w : World) : Calls Try.prog 9 #[.int .i64 c] w fun e w' => e = .returned (.pointer (some ⟨w.heap.size + 1, 0, none⟩)) ∧ TabAt w' (fun k => w.heap.size ≤ k ∧ k < w'.heap.size) (w.heap.size + 1) (newT c) ∧ Below w.heap.size w w' := by
  refine (new_ c w).mono ?_
  rintro e w' ⟨rfl, h, hb⟩
  exact ⟨rfl, ⟨_, _, h, ⟨by omega, h.head.lt⟩, ⟨Nat.le_refl _, h.map.lt⟩, fun k hk => by cases hk⟩, hb⟩

theorem issueAt (h : TabAt w O B t) {x key : Int} {ins : Bool} (hx : In64 x) (hk : In64 key) (hroom : t.slots.length + 1 ≤ 1000000) (hser : t.serial < 9223372036854775807) :
    Calls Try.prog 11 #[.pointer (some ⟨B, 0, none⟩), .int .i64 x, .bool ins, .int .i64 key] w fun e w' => e = .returned (.tuple #[aggL (issueR t x ins key).1, .int .i64 (issueR t x ins key).2.1]) ∧ TabAt w' (More O w w') B (issueR t x ins key).2.2 ∧ Chg O w w' := by
  obtain ⟨M, v, h, h1, h2, h3⟩ := h
  unfold issueR
  by_cases he : mayE t x = 0
  · rw [if_pos he]
    have fin : ∀ (e : Ending) (w' : World), (e = .returned (.tuple #[aggListed (freeI t) (lastI t + 1) (issueOp t x ins key), .int .i64 0]) ∧ ∃ v', TabV w' B M v' (issueT t x ins key) ∧
      Chg (fun k => k = B ∨ k = M ∨ v.ownBlock = some k) w w' ∧ (v'.ownBlock = v.ownBlock ∨ ∃ k, v'.ownBlock = some k ∧ w.heap.size ≤ k)) →
      e = .returned (.tuple #[aggL ⟨⟨freeI t, lastI t + 1⟩, issueOp t x ins key⟩, .int .i64 0]) ∧ TabAt w' (More O w w') B (issueT t x ins key) ∧ Chg O w w' := by
      rintro e w' ⟨rfl, v', h4, h5, h6⟩
      refine ⟨rfl, ⟨M, v', h4, Or.inl h1, Or.inl h2, fun k hk => ?_⟩, h5.mono (fun k _ hk => by rcases hk with rfl | rfl | hk; exact h1; exact h2; exact h3 k hk)⟩
      rcases h6 with e | ⟨j, e, hj⟩
      · exact Or.inl (h3 k (by rw [← e]; exact hk))
      · have hlt := h4.ltV hk
        rw [e] at hk; injection hk with hk
        exact Or.inr ⟨by omega, by omega⟩
    cases ins with
    | true => exact (issue_true h hx hk he hroom hser).mono fin
    | false => exact (issue_false (key := key) h hx (by unfold In64; omega) he hroom hser).mono fin
  · rw [if_neg he]
    refine (issue_err h hx he).mono ?_
    rintro e w' ⟨rfl, hb⟩
    exact ⟨rfl, (TabAt.below ⟨M, v, h, h1, h2, h3⟩ hb).more, Chg.of_below hb⟩

theorem chgO {M : Nat} {v : Value} {w' : World} (h2 : O M) (h3 : ∀ k, v.ownBlock = some k → O k) (h : Chg (fun k => k = M ∨ v.ownBlock = some k) w w') : Chg O w w' :=
  h.mono (fun k _ hk => by rcases hk with rfl | hk; exact h2; exact h3 k hk)

theorem dropAt (h : TabAt w O B t) (r : Ref) :
    Calls Try.prog 12 #[.pointer (some ⟨B, 0, none⟩), .agg #[.int .i64 r.i, .int .i64 r.g]] w fun e w' => e = .returned (.tuple #[aggOp (dropR t r).1, .bool (dropR t r).2.1]) ∧ TabAt w' O B (dropR t r).2.2 ∧ Chg O w w' := by
  obtain ⟨M, v, h, h1, h2, h3⟩ := h
  unfold dropR
  cases hf : findOf t r.i r.g with
  | none =>
    refine (drop_none h hf).mono ?_
    rintro e w' ⟨rfl, hb⟩
    exact ⟨rfl, TabAt.below ⟨M, v, h, h1, h2, h3⟩ hb, Chg.of_below hb⟩
  | some i =>
    obtain ⟨s, hs, _⟩ := findOf_some hf
    simp only
    rw [hs]
    refine (drop_some h hf hs).mono ?_
    rintro e w' ⟨rfl, h4, h5⟩
    exact ⟨rfl, ⟨M, v, h4, h1, h2, h3⟩, chgO h2 h3 h5⟩

theorem moveAt (h : TabAt w O B t) (r : Ref) {x : Int} (hx : In64 x) :
    Calls Try.prog 14 #[.pointer (some ⟨B, 0, none⟩), .agg #[.int .i64 r.i, .int .i64 r.g], .int .i64 x] w fun e w' => e = .returned (.int .i64 (moveR t r x).1) ∧ TabAt w' O B (moveR t r x).2 ∧ Chg O w w' := by
  obtain ⟨M, v, h, h1, h2, h3⟩ := h
  unfold moveR
  cases hf : findOf t r.i r.g with
  | none =>
    refine (move_none h x hf).mono ?_
    rintro e w' ⟨rfl, hb⟩
    exact ⟨rfl, TabAt.below ⟨M, v, h, h1, h2, h3⟩ hb, Chg.of_below hb⟩
  | some i =>
    obtain ⟨s, hs, _⟩ := findOf_some hf
    simp only
    rw [hs]
    simp only
    by_cases hne : x = s.op.time
    · rw [if_neg (fun h => h.2 hne)]
      refine (move_same h hx hf hs hne).mono ?_
      rintro e w' ⟨rfl, h4, h5⟩
      exact ⟨rfl, ⟨M, v, h4, h1, h2, h3⟩, chgO h2 h3 h5⟩
    · cases hy : timesOf t.slots x with
      | none =>
        rw [if_neg (fun h => by simp at h)]
        refine (move_free h hx hf hs hy).mono ?_
        rintro e w' ⟨rfl, h4, h5⟩
        exact ⟨rfl, ⟨M, v, h4, h1, h2, h3⟩, chgO h2 h3 h5⟩
      | some y =>
        rw [if_pos ⟨rfl, hne⟩]
        refine (move_taken h hx hf hs hy hne).mono ?_
        rintro e w' ⟨rfl, hb⟩
        exact ⟨rfl, TabAt.below ⟨M, v, h, h1, h2, h3⟩ hb, Chg.of_below hb⟩

theorem reviveAt (h : TabAt w O B t) (l : Listed) (ho : In64O l.o) :
    Calls Try.prog 13 #[.pointer (some ⟨B, 0, none⟩), aggL l] w fun e w' => e = .returned (.int .i64 (reviveE t l)) ∧ TabAt w' O B (reviveT t l) ∧ Chg O w w' := by
  obtain ⟨M, v, h, h1, h2, h3⟩ := h
  have err : ∀ {E : Int}, E ≠ 0 → reviveE t l = E → Calls Try.prog 13 #[.pointer (some ⟨B, 0, none⟩), aggL l] w (fun e w' => e = .returned (.int .i64 E) ∧ Below w.heap.size w w') →
      Calls Try.prog 13 #[.pointer (some ⟨B, 0, none⟩), aggL l] w fun e w' => e = .returned (.int .i64 (reviveE t l)) ∧ TabAt w' O B (reviveT t l) ∧ Chg O w w' := by
    intro E hE he hc
    refine hc.mono ?_
    rintro e w' ⟨rfl, hb⟩
    refine ⟨by rw [he], ?_, Chg.of_below hb⟩
    unfold reviveT
    rw [he, if_neg hE]
    exact TabAt.below ⟨M, v, h, h1, h2, h3⟩ hb
  by_cases he : mayE t l.o.time = 0
  · have e0 : ∀ X, reviveE t l = X ↔ (if l.r.i < 0 ∨ (t.slots.length : Int) ≤ l.r.i then 13 else match t.slots[l.r.i.toNat]? with
      | none => 13
      | some s => if 0 < s.gen ∨ l.r.g < 1 ∨ s.last < l.r.g then 13 else if knownOf t l.o.id = false ∨ (l.o.ins = false ∧ l.o.key ≠ 0) then 2 else 0) = X := by
      intro X; unfold reviveE; rw [if_pos he]
    by_cases a1 : l.r.i < 0
    · exact err (by decide) ((e0 13).2 (if_pos (Or.inl a1))) (revive_b1 h ho he a1)
    by_cases a2 : (t.slots.length : Int) ≤ l.r.i
    · exact err (by decide) ((e0 13).2 (if_pos (Or.inr a2))) (revive_b2 h ho he a1 a2)
    obtain ⟨i, hi⟩ : ∃ i : Nat, l.r.i = i := ⟨l.r.i.toNat, by omega⟩
    have hlt : i < t.slots.length := by omega
    obtain ⟨s, hs⟩ : ∃ s, t.slots[i]? = some s := ⟨_, List.getElem?_eq_getElem hlt⟩
    have ea : aggL l = aggListed (i : Int) l.r.g l.o := by unfold aggL; rw [hi]
    have e1 : ∀ X, reviveE t l = X ↔ (if 0 < s.gen ∨ l.r.g < 1 ∨ s.last < l.r.g then 13 else if knownOf t l.o.id = false ∨ (l.o.ins = false ∧ l.o.key ≠ 0) then 2 else 0) = X := by
      intro X; rw [e0, if_neg (by omega), hi, Int.toNat_natCast, hs]
    by_cases a3 : 0 < s.gen
    · exact err (by decide) ((e1 13).2 (if_pos (Or.inl a3))) (by rw [ea]; exact revive_b3 h ho he hs a3)
    by_cases a4 : l.r.g < 1
    · exact err (by decide) ((e1 13).2 (if_pos (Or.inr (Or.inl a4)))) (by rw [ea]; exact revive_b4 h ho he hs a3 a4)
    by_cases a5 : s.last < l.r.g
    · exact err (by decide) ((e1 13).2 (if_pos (Or.inr (Or.inr a5)))) (by rw [ea]; exact revive_b5 h ho he hs a3 a4 a5)
    have e2 : ∀ X, reviveE t l = X ↔ (if knownOf t l.o.id = false ∨ (l.o.ins = false ∧ l.o.key ≠ 0) then 2 else 0) = X := by
      intro X; rw [e1, if_neg (fun h => by rcases h with h | h | h; exact a3 h; exact a4 h; exact a5 h)]
    cases hk : knownOf t l.o.id with
    | false => exact err (by decide) ((e2 2).2 (if_pos (Or.inl hk))) (by rw [ea]; exact revive_c1 h ho he hs a3 a4 a5 hk)
    | true =>
      have okk : reviveE t l = 0 → Calls Try.prog 13 #[.pointer (some ⟨B, 0, none⟩), aggListed (i : Int) l.r.g l.o] w (fun e w' => e = .returned (.int .i64 0) ∧ TabV w' B M v { t with slots := t.slots.set i ⟨s.last, l.r.g, l.o⟩ } ∧ Chg (fun k => k = M ∨ v.ownBlock = some k) w w') →
          Calls Try.prog 13 #[.pointer (some ⟨B, 0, none⟩), aggL l] w fun e w' => e = .returned (.int .i64 (reviveE t l)) ∧ TabAt w' O B (reviveT t l) ∧ Chg O w w' := by
        intro h0 hc
        rw [ea]
        refine hc.mono ?_
        rintro e w' ⟨rfl, h4, h5⟩
        refine ⟨by rw [h0], ?_, chgO h2 h3 h5⟩
        unfold reviveT
        rw [if_pos h0, hi, Int.toNat_natCast, hs]
        exact ⟨M, v, h4, h1, h2, h3⟩
      cases hins : l.o.ins with
      | true => exact okk ((e2 0).2 (if_neg (fun h => by rcases h with h | h; rw [hk] at h; cases h; rw [hins] at h; cases h.1))) (revive_ok1 h ho he hs a3 a4 a5 hk hins)
      | false =>
        by_cases hkey : l.o.key = 0
        · exact okk ((e2 0).2 (if_neg (fun h => by rcases h with h | h; rw [hk] at h; cases h; exact h.2 hkey))) (revive_ok2 h ho he hs a3 a4 a5 hk hins hkey)
        · exact err (by decide) ((e2 2).2 (if_pos (Or.inr ⟨hins, hkey⟩))) (by rw [ea]; exact revive_c2 h ho he hs a3 a4 a5 hk hins hkey)
  · exact err he (by unfold reviveE; rw [if_neg he]) (revive_may h ho he)
end
end Go.Proofs.Ytccfjjaljckinaa.Tag
