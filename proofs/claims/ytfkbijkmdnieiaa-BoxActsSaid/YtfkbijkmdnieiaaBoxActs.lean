/- The law on whatever is done to three boxes answers true, at any sizes and any acts. No conditions. -/
import Derived.Test.YtfkbijkmdnieiaaBoxPick
import Derived.Test.YtfkbijkmdnieiaaBoxNil
import Derived.Deep.DeepCutAuto
import Derived.Deep.CutBlock
import Derived.Deep.LoopGhost
import Derived.OpenShut
namespace Go.Proofs.Ytfkbijkmdnieiaa.BoxActs
open Go.RowKit Go.Conc Go.Proofs.Ytfkbijkmdnieiaa.Mem Go.Proofs.Ytfkbijkmdnieiaa.BoxInt Go.Proofs.Ytfkbijkmdnieiaa.BoxRef Go.Proofs.YtfkbijkmdnieiaaW.PrintWords

/-- How the blocks of three boxes and of the document's three lie. -/
structure Lie (n0 base BB MB : Nat) (B C D M : Nat → Nat) (s0 s1 s2 s3 s4 s5 : Nat) : Prop where
  tabs : n0 ≤ BB ∧ n0 ≤ MB ∧ BB ≠ MB ∧ BB < s0 ∧ MB < s0
  b0 : s0 ≤ B 0 ∧ B 0 < s1 ∧ s0 ≤ C 0 ∧ C 0 < s1 ∧ s0 ≤ D 0 ∧ D 0 < s1
  m0 : s1 ≤ M 0 ∧ M 0 < s2
  b1 : s2 ≤ B 1 ∧ B 1 < s3 ∧ s2 ≤ C 1 ∧ C 1 < s3 ∧ s2 ≤ D 1 ∧ D 1 < s3
  m1 : s3 ≤ M 1 ∧ M 1 < s4
  b2 : s4 ≤ B 2 ∧ B 2 < s5 ∧ s4 ≤ C 2 ∧ C 2 < s5 ∧ s4 ≤ D 2 ∧ D 2 < s5
  m2 : s5 ≤ M 2 ∧ M 2 < base

/-- The same, as it is used. -/
structure Far3 (n0 base BB MB : Nat) (B C D M : Nat → Nat) : Prop where
  low : ∀ i, i < 3 → n0 ≤ C i ∧ n0 ≤ D i ∧ n0 ≤ M i
  high : ∀ i, i < 3 → C i < base ∧ D i < base ∧ M i < base
  tabs : ∀ i, i < 3 → BB ≠ C i ∧ BB ≠ D i ∧ BB ≠ M i ∧ MB ≠ C i ∧ MB ≠ D i ∧ MB ≠ M i
  box : ∀ i j, i < 3 → j < 3 → i ≠ j → Far (B i) (C i) (D i) (B j) (C j) (D j)
  ref : ∀ i j, i < 3 → j < 3 → i ≠ j → M i ≠ M j
  both : ∀ i j, i < 3 → j < 3 → M i ≠ B j ∧ M i ≠ C j ∧ M i ≠ D j

theorem three {P : Nat → Prop} (h0 : P 0) (h1 : P 1) (h2 : P 2) : ∀ i, i < 3 → P i := by
  intro i hi
  rcases (show i = 0 ∨ i = 1 ∨ i = 2 by omega) with rfl | rfl | rfl
  · exact h0
  · exact h1
  · exact h2

theorem Lie.far {n0 base BB MB : Nat} {B C D M : Nat → Nat} {s0 s1 s2 s3 s4 s5 : Nat} (h : Lie n0 base BB MB B C D M s0 s1 s2 s3 s4 s5) : Far3 n0 base BB MB B C D M := by
  obtain ⟨h1, h2, h3, h4, h5, h6, h7⟩ := h
  refine ⟨three ?_ ?_ ?_, three ?_ ?_ ?_, three ?_ ?_ ?_, ?_, ?_, ?_⟩
  any_goals omega
  · intro i j hi hj hne
    rcases (show i = 0 ∨ i = 1 ∨ i = 2 by omega) with rfl | rfl | rfl <;> rcases (show j = 0 ∨ j = 1 ∨ j = 2 by omega) with rfl | rfl | rfl <;> first | omega | exact ⟨by omega, by omega, by omega⟩
  · intro i j hi hj hne
    rcases (show i = 0 ∨ i = 1 ∨ i = 2 by omega) with rfl | rfl | rfl <;> rcases (show j = 0 ∨ j = 1 ∨ j = 2 by omega) with rfl | rfl | rfl <;> omega
  · intro i j hi hj
    rcases (show i = 0 ∨ i = 1 ∨ i = 2 by omega) with rfl | rfl | rfl <;> rcases (show j = 0 ∨ j = 1 ∨ j = 2 by omega) with rfl | rfl | rfl <;> omega

/-- Three boxes, and the document's three. -/
structure St (w0 : World) (BB MB base : Nat) (B C D M cap : Nat → Nat) (w : World) (vs us : Nat → List Int) (cl dl : Nat → Bool) : Prop where
  hb : Blk w BB #[.pointer (some ⟨B 0, 0, none⟩), .pointer (some ⟨B 1, 0, none⟩), .pointer (some ⟨B 2, 0, none⟩)] 77
  hm : Blk w MB #[.pointer (some ⟨M 0, 0, none⟩), .pointer (some ⟨M 1, 0, none⟩), .pointer (some ⟨M 2, 0, none⟩)] 79
  box : ∀ k, k < 3 → IsBox w (B k) (C k) (D k) (cap k) (vs k) (cl k)
  ref : ∀ k, k < 3 → IsRef w base (M k) (cap k) (us k) (dl k)
  bel : Below w0.heap.size w0 w
  low : base ≤ w.heap.size
  far : Far3 w0.heap.size base BB MB B C D M

def upd {α : Type} (f : Nat → α) (i : Nat) (x : α) : Nat → α := fun k => if k = i then x else f k
theorem upd_same {α : Type} (f : Nat → α) (i : Nat) (x : α) : upd f i x i = x := by simp [upd]
theorem upd_ne {α : Type} (f : Nat → α) {i k : Nat} (x : α) (h : k ≠ i) : upd f i x k = f k := by simp [upd, h]

section
variable {w0 : World} {BB MB base : Nat} {B C D M cap : Nat → Nat} {w w1 : World} {vs us : Nat → List Int} {cl dl : Nat → Bool}
theorem St.turn (h : St w0 BB MB base B C D M cap w vs us cl dl) {S : Nat → Prop} {vs1 us1 : Nat → List Int} {cl1 dl1 : Nat → Bool} (hc : Chg S w w1) (hS : ∀ k, S k → ∃ i, i < 3 ∧ (k = C i ∨ k = D i ∨ k = M i))
    (hb : ∀ k, k < 3 → IsBox w1 (B k) (C k) (D k) (cap k) (vs1 k) (cl1 k)) (hr : ∀ k, k < 3 → IsRef w1 base (M k) (cap k) (us1 k) (dl1 k)) : St w0 BB MB base B C D M cap w1 vs1 us1 cl1 dl1 := by
  refine ⟨h.hb.keep hc ?_, h.hm.keep hc ?_, hb, hr, hc.onto h.bel (Nat.le_refl _) ?_, Nat.le_trans h.low hc.size, h.far⟩
  · intro hk
    obtain ⟨i, hi, e⟩ := hS _ hk
    have := h.far.tabs i hi; omega
  · intro hk
    obtain ⟨i, hi, e⟩ := hS _ hk
    have := h.far.tabs i hi; omega
  · intro k hlt hk
    obtain ⟨i, hi, e⟩ := hS _ hk
    have := h.far.low i hi; omega
theorem St.same (h : St w0 BB MB base B C D M cap w vs us cl dl) (hc : Chg (fun _ => False) w w1) : St w0 BB MB base B C D M cap w1 vs us cl dl :=
  h.turn hc (fun _ e => e.elim) (fun k hk => (h.box k hk).keep hc (by simp) (by simp) (by simp)) (fun k hk => (h.ref k hk).keep hc (by simp) (by simp))
/-- One box has been turned. -/
theorem St.setBox (h : St w0 BB MB base B C D M cap w vs us cl dl) {i : Nat} (hi : i < 3) {xs : List Int} {c : Bool} (hb : IsBox w1 (B i) (C i) (D i) (cap i) xs c) (hc : Chg (fun k => k = C i ∨ k = D i) w w1) :
    St w0 BB MB base B C D M cap w1 (upd vs i xs) us (upd cl i c) dl := by
  refine h.turn hc (fun k e => ⟨i, hi, by omega⟩) (fun k hk => ?_) (fun k hk => ?_)
  · by_cases e : k = i
    · subst e; rw [upd_same, upd_same]; exact hb
    · rw [upd_ne _ _ e, upd_ne _ _ e]
      have := h.far.box k i hk hi e
      exact (h.box k hk).keep hc (by have := this.b; omega) (by have := this.c; omega) (by have := this.d; omega)
  · refine (h.ref k hk).keep hc ?_ ?_
    · have := h.far.both k i hk hi; omega
    · have := h.far.high i hi; intro k hk; omega
/-- One of the document's boxes has been turned. -/
theorem St.setRef (h : St w0 BB MB base B C D M cap w vs us cl dl) {i : Nat} (hi : i < 3) {xs : List Int} {c : Bool} (hr : IsRef w1 base (M i) (cap i) xs c) (hc : Chg (fun k => k = M i) w w1) :
    St w0 BB MB base B C D M cap w1 vs (upd us i xs) cl (upd dl i c) := by
  refine h.turn hc (fun k e => ⟨i, hi, by omega⟩) (fun k hk => ?_) (fun k hk => ?_)
  · have := h.far.both i k hi hk
    exact (h.box k hk).keep hc (by omega) (by omega) (by omega)
  · by_cases e : k = i
    · subst e; rw [upd_same, upd_same]; exact hr
    · rw [upd_ne _ _ e, upd_ne _ _ e]
      refine (h.ref k hk).keep hc (h.far.ref k i hk hi e) ?_
      have := h.far.high i hi; intro k hk; omega
/-- Two boxes have been turned. -/
theorem St.setBox2 (h : St w0 BB MB base B C D M cap w vs us cl dl) {i j : Nat} (hi : i < 3) (hj : j < 3) (_ : i ≠ j) {xs ys : List Int} (hb : IsBox w1 (B i) (C i) (D i) (cap i) xs (cl i)) (hb' : IsBox w1 (B j) (C j) (D j) (cap j) ys (cl j)) (hc : Chg (fun k => k = C i ∨ k = C j) w w1) :
    St w0 BB MB base B C D M cap w1 (upd (upd vs i xs) j ys) us cl dl := by
  refine h.turn hc (fun k e => by rcases e with e | e; exact ⟨i, hi, by omega⟩; exact ⟨j, hj, by omega⟩) (fun k hk => ?_) (fun k hk => ?_)
  · by_cases e : k = j
    · subst e; rw [upd_same]; exact hb'
    · rw [upd_ne _ _ e]
      by_cases e' : k = i
      · subst e'; rw [upd_same]; exact hb
      · rw [upd_ne _ _ e']
        have h1 := h.far.box k i hk hi e'
        have h2 := h.far.box k j hk hj e
        exact (h.box k hk).keep hc (by have := h1.b; have := h2.b; omega) (by have := h1.c; have := h2.c; omega) (by have := h1.d; have := h2.d; omega)
  · refine (h.ref k hk).keep hc ?_ ?_
    · have := h.far.both k i hk hi; have := h.far.both k j hk hj; omega
    · have := h.far.high i hi; have := h.far.high j hj; intro k hk; omega
theorem St.setRef2 (h : St w0 BB MB base B C D M cap w vs us cl dl) {i j : Nat} (hi : i < 3) (hj : j < 3) (_ : i ≠ j) {xs ys : List Int} (hr : IsRef w1 base (M i) (cap i) xs (dl i)) (hr' : IsRef w1 base (M j) (cap j) ys (dl j)) (hc : Chg (fun k => k = M i ∨ k = M j) w w1) :
    St w0 BB MB base B C D M cap w1 vs (upd (upd us i xs) j ys) cl dl := by
  refine h.turn hc (fun k e => by rcases e with e | e; exact ⟨i, hi, by omega⟩; exact ⟨j, hj, by omega⟩) (fun k hk => ?_) (fun k hk => ?_)
  · have h1 := h.far.both i k hi hk
    have h2 := h.far.both j k hj hk
    exact (h.box k hk).keep hc (by omega) (by omega) (by omega)
  · by_cases e : k = j
    · subst e; rw [upd_same]; exact hr'
    · rw [upd_ne _ _ e]
      by_cases e' : k = i
      · subst e'; rw [upd_same]; exact hr
      · rw [upd_ne _ _ e']
        refine (h.ref k hk).keep hc ?_ ?_
        · have := h.far.ref k i hk hi e'; have := h.far.ref k j hk hj e; omega
        · have := h.far.high i hi; have := h.far.high j hj; intro k hk; omega
/-- The cells of both tables. -/
theorem St.cells (h : St w0 BB MB base B C D M cap w vs us cl dl) : ∀ k, k < 3 → w.cell? ⟨BB, k, none⟩ = some (.pointer (some ⟨B k, 0, none⟩)) ∧ w.cell? ⟨MB, k, none⟩ = some (.pointer (some ⟨M k, 0, none⟩)) :=
  three ⟨h.hb.cell rfl, h.hm.cell rfl⟩ ⟨h.hb.cell rfl, h.hm.cell rfl⟩ ⟨h.hb.cell rfl, h.hm.cell rfl⟩
/-- The cells of one of the document's boxes. -/
theorem St.refCells (h : St w0 BB MB base B C D M cap w vs us cl dl) {k : Nat} (hk : k < 3) : ∃ A c, w.cell? ⟨M k, 0, none⟩ = some (.int .i64 (cap k)) ∧ w.cell? ⟨M k, 1, none⟩ = some (.slice A (us k).length c) ∧ w.cell? ⟨M k, 2, none⟩ = some (.bool (dl k)) ∧ w.frozen? ⟨M k, 2, none⟩ = false := by
  obtain ⟨A, c, _, hb, _⟩ := h.ref k hk
  exact ⟨A, c, hb.cell rfl, hb.cell rfl, hb.cell rfl, hb.free 2⟩
end

abbrev act : Kd (Int × Int × Int) := Kd.pair (Kd.int .i64) (Kd.pair (Kd.int .i64) (Kd.int .i64))
theorem act_any {A : Option Addr} {xs : List (Int × Int × Int)} {w : World} {i : Nat} (h : act.C w A xs.length xs) (hi : i < xs.length) : ∃ ad, A = some ad ∧ ∀ wy, Below w.heap.size w wy →
    wy.cell? (ad.add (i * 3)) = some (.int .i64 xs[i].1) ∧ wy.cell? ⟨(ad.add (i * 3)).block, (ad.add (i * 3)).off + 1, none⟩ = some (.int .i64 xs[i].2.1) ∧ wy.cell? ⟨(ad.add (i * 3)).block, (ad.add (i * 3)).off + 2, none⟩ = some (.int .i64 xs[i].2.2) := by
  obtain ⟨ad, hA, _⟩ := h.2.2 (by omega)
  refine ⟨ad, hA, fun wy hb => ?_⟩
  obtain ⟨ad', hA', hc⟩ := (Kd.C_below h hb).2.2 (by omega)
  rw [hA] at hA'
  cases hA'
  obtain ⟨cs, _, hk, hcell⟩ := hc i xs[i] (by simp [hi])
  obtain ⟨c0, c1, rfl, k0, c2, c3, rfl, k1, k2⟩ := hk
  have k0 : c0 = [.int .i64 xs[i].1] := k0
  have k1 : c2 = [.int .i64 xs[i].2.1] := k1
  have k2 : c3 = [.int .i64 xs[i].2.2] := k2
  subst k0; subst k1; subst k2
  have r0 := hcell 0 _ rfl
  have r1 := hcell 1 _ rfl
  have r2 := hcell 2 _ rfl
  rw [← Go.Proofs.YtfkbijkmdnieiaaW.PrintWords.add_add] at r1 r2
  exact ⟨r0, r1, r2⟩

/-- The tables while they are filled. -/
structure Stg (w0 : World) (BB Z : Nat) (pb pm z : Array Value) (w : World) : Prop where
  b : Blk w BB pb 77
  m : Blk w (BB + 1) pm 79
  z : Blk w Z z 75
  bel : Below w0.heap.size w0 w
  lo : w0.heap.size ≤ BB
  zlo : Z < BB
section
variable {w0 w w1 : World} {BB Z : Nat} {pb pm z : Array Value}
theorem Stg.lt (h : Stg w0 BB Z pb pm z w) : BB < w.heap.size ∧ BB + 1 < w.heap.size := ⟨h.b.lt, h.m.lt⟩
theorem Stg.call (h : Stg w0 BB Z pb pm z w) (hc : Chg (fun _ => False) w w1) : Stg w0 BB Z pb pm z w1 :=
  ⟨h.b.keep hc (by simp), h.m.keep hc (by simp), h.z.keep hc (by simp), hc.onto h.bel (Nat.le_refl _) (by simp), h.lo, h.zlo⟩
theorem Stg.putB (h : Stg w0 BB Z pb pm z w) (i : Nat) (v : Value) : Stg w0 BB Z (pb.setIfInBounds i v) pm z (w.setCell ⟨BB, i, none⟩ v) := by
  have hc := Chg.set (S := fun k => k = BB) (p := ⟨BB, i, none⟩) (Chg.refl _ w) (fun _ => rfl) v
  exact ⟨h.b.set i v, h.m.keep hc (by omega), h.z.keep hc (by have := h.zlo; omega), hc.onto h.bel (Nat.le_refl _) (by have := h.lo; intro k hk; omega), h.lo, h.zlo⟩
theorem Stg.putM (h : Stg w0 BB Z pb pm z w) (i : Nat) (v : Value) : Stg w0 BB Z pb (pm.setIfInBounds i v) z (w.setCell ⟨BB + 1, i, none⟩ v) := by
  have hc := Chg.set (S := fun k => k = BB + 1) (p := ⟨BB + 1, i, none⟩) (Chg.refl _ w) (fun _ => rfl) v
  exact ⟨h.b.keep hc (by omega), h.m.set i v, h.z.keep hc (by have := h.zlo; omega), hc.onto h.bel (Nat.le_refl _) (by have := h.lo; intro k hk; omega), h.lo, h.zlo⟩
theorem blk_at {w : World} {n : Nat} (hn : n = w.heap.size) (cs : Array Value) (t : TypeId) : Blk (w.alloc (.cells cs t)) n cs t := by subst hn; exact Blk.new w cs t
theorem ne_of {a b c : Nat} (h : a < b) (h' : b ≤ c) : ¬ c = a := by omega
end

def tri {α : Type} (a b c : α) : Nat → α
  | 0 => a
  | 1 => b
  | _ => c
theorem start {w0 wk : World} {BB Z base : Nat} {B0 C0 D0 n0 M0 B1 C1 D1 n1 M1 B2 C2 D2 n2 M2 s0 s1 s2 s3 s4 s5 : Nat} {z : Array Value}
    (hs : Stg w0 BB Z #[.pointer (some ⟨B0, 0, none⟩), .pointer (some ⟨B1, 0, none⟩), .pointer (some ⟨B2, 0, none⟩)] #[.pointer (some ⟨M0, 0, none⟩), .pointer (some ⟨M1, 0, none⟩), .pointer (some ⟨M2, 0, none⟩)] z wk)
    (p0 : IsBox wk B0 C0 D0 n0 [] false) (p1 : IsBox wk B1 C1 D1 n1 [] false) (p2 : IsBox wk B2 C2 D2 n2 [] false)
    (m0 : Blk wk M0 #[.int .i64 n0, .slice none 0 0, .bool false] 82) (m1 : Blk wk M1 #[.int .i64 n1, .slice none 0 0, .bool false] 82) (m2 : Blk wk M2 #[.int .i64 n2, .slice none 0 0, .bool false] 82)
    (hl : Lie w0.heap.size base BB (BB + 1) (tri B0 B1 B2) (tri C0 C1 C2) (tri D0 D1 D2) (tri M0 M1 M2) s0 s1 s2 s3 s4 s5) (hb : base ≤ wk.heap.size) :
    ∃ B C D M cap, St w0 BB (BB + 1) base B C D M cap wk (fun _ => []) (fun _ => []) (fun _ => false) (fun _ => false) :=
  ⟨tri B0 B1 B2, tri C0 C1 C2, tri D0 D1 D2, tri M0 M1 M2, tri n0 n1 n2, hs.b, hs.m, three p0 p1 p2, three ⟨none, 0, Nat.le_refl _, m0, PileRef.Seg.nil _ _ _⟩ ⟨none, 0, Nat.le_refl _, m1, PileRef.Seg.nil _ _ _⟩ ⟨none, 0, Nat.le_refl _, m2, PileRef.Seg.nil _ _ _⟩, hs.bel, hb, hl.far⟩
/-- A rest, as a number below n. -/
def rv (n : Nat) (a : Int) : Nat := (a % n).toNat
theorem rv_lt (a : Int) (n : Nat) (h0 : 0 < n) : rv n a < n := by
  unfold rv
  have := Int.emod_nonneg a (show (n : Int) ≠ 0 by omega)
  have := Int.emod_lt_of_pos a (show (0 : Int) < n by omega)
  omega
theorem rest3 (a : Int) (w : World) : Calls Try.prog 51 #[.int .i64 a, .int .i64 3] w fun e w' => e = .returned (.int .i64 (rv 3 a : Nat)) ∧ w' = w := (rest a 3 w (by decide) (by decide)).mono (fun _ _ h => ⟨h.1, h.2.symm⟩)
theorem rest5 (a : Int) (w : World) : Calls Try.prog 51 #[.int .i64 a, .int .i64 5] w fun e w' => e = .returned (.int .i64 (rv 5 a : Nat)) ∧ w' = w := (rest a 5 w (by decide) (by decide)).mono (fun _ _ h => ⟨h.1, h.2.symm⟩)

/-- Whether an offer is taken; what is there then. -/
def offOk (vs : List Int) (cap : Nat) (cl : Bool) : Bool := !cl && decide (vs.length < cap)
def offL (vs : List Int) (cap : Nat) (cl : Bool) (v : Int) : List Int := if !cl && decide (vs.length < cap) then vs ++ [v] else vs
def hdOf (vs : List Int) : Int := vs.headD 0
def isOf (vs : List Int) : Bool := !vs.isEmpty
theorem off_box (B C D cap : Nat) (vs : List Int) (cl : Bool) (v : Int) (w : World) (h : IsBox w B C D cap vs cl) :
    Calls Try.prog 46 #[.pointer (some ⟨B, 0, none⟩), .int .i64 v] w fun e w' => e = .returned (.bool (offOk vs cap cl)) ∧ IsBox w' B C D cap (offL vs cap cl v) cl ∧ Chg (fun k => k = C ∨ k = D) w w' :=
  (BoxInt.offer B C D cap vs cl v w h).mono (fun _ _ h => ⟨h.1, h.2.1, h.2.2.mono (fun _ _ e => Or.inl e)⟩)
theorem off_ref (lo M cap : Nat) (vs : List Int) (cl : Bool) (v : Int) (w : World) (h : IsRef w lo M cap vs cl) (hM : M < lo) (hlo : lo ≤ w.heap.size) (hle : vs.length ≤ cap) (hcap : cap ≤ 1000) :
    Calls Try.prog 65 #[.pointer (some ⟨M, 0, none⟩), .int .i64 v] w fun e w' => e = .returned (.bool (offOk vs cap cl)) ∧ IsRef w' lo M cap (offL vs cap cl v) cl ∧ Chg (fun k => k = M) w w' :=
  (offer_ref lo M cap vs cl v w h hM hlo hle hcap).mono (fun _ _ h => h)
theorem tk_box (B C D cap : Nat) (vs : List Int) (cl : Bool) (w : World) (h : IsBox w B C D cap vs cl) :
    Calls Try.prog 48 #[.pointer (some ⟨B, 0, none⟩)] w fun e w' => e = .returned (.tuple #[.int .i64 (hdOf vs), .bool (isOf vs)]) ∧ IsBox w' B C D cap vs.tail cl ∧ Chg (fun k => k = C ∨ k = D) w w' :=
  (BoxInt.take B C D cap vs cl w h).mono (fun _ _ h => ⟨h.1, h.2.1, h.2.2.mono (fun _ _ e => Or.inl e)⟩)
theorem tk_ref (lo M cap : Nat) (vs : List Int) (cl : Bool) (w : World) (h : IsRef w lo M cap vs cl) (hM : M < lo) :
    Calls Try.prog 66 #[.pointer (some ⟨M, 0, none⟩)] w fun e w' => e = .returned (.tuple #[.int .i64 (hdOf vs), .bool (isOf vs)]) ∧ IsRef w' lo M cap vs.tail cl ∧ Chg (fun k => k = M) w w' :=
  (take_ref lo M cap vs cl w h hM).mono (fun _ _ h => h)
theorem cl_box (B C D cap : Nat) (vs : List Int) (cl : Bool) (w : World) (h : IsBox w B C D cap vs cl) :
    Calls Try.prog 67 #[.pointer (some ⟨B, 0, none⟩)] w fun e w' => e = .returned (.bool (!cl)) ∧ IsBox w' B C D cap vs true ∧ Chg (fun k => k = C ∨ k = D) w w' :=
  (BoxInt.close B C D cap vs cl w h).mono (fun _ _ h => ⟨h.1, h.2.1, h.2.2.mono (fun _ _ e => Or.inr e)⟩)
theorem ref_shut {w : World} {lo M cap : Nat} {vs : List Int} {cl : Bool} (h : IsRef w lo M cap vs cl) (hM : M < lo) : IsRef (w.setCell ⟨M, 2, none⟩ (.bool true)) lo M cap vs true ∧ Chg (fun k => k = M) w (w.setCell ⟨M, 2, none⟩ (.bool true)) := by
  obtain ⟨A, c, h1, hb, hs⟩ := h
  have hc := chg_set1 (Chg.refl (fun k => k = M) w) 2 (.bool true)
  exact ⟨⟨A, c, h1, by simpa using hb.set 2 (.bool true), hs.chg hc (by intro k hk; omega)⟩, hc⟩

set_option maxRecDepth 100000 in
set_option maxHeartbeats 2000000 in
theorem walk_long (a b c : Int) (A : Option Addr) (len cap : Nat) (w : World) (hbig : 80 < len) :
    Calls Try.prog 16 #[.agg #[.int .i64 a, .int .i64 b, .int .i64 c], .slice A len cap] w fun e w' => e = .returned (.bool true) ∧ Below w.heap.size w w' := by
  obtain ⟨wa, hwa⟩ : ∃ wa, wa = w.alloc (Obj.cells #[.int .i64 a, .int .i64 b, .int .i64 c] 75) := ⟨_, rfl⟩
  have HA : Hid (Below w.heap.size w wa) := by subst hwa; exact (Below.refl _ _).alloc (Nat.le_refl _) _
  have HE := Lib.hid hwa
  clear hwa
  go_enter Try.func16, Try.ntmps16
  go_wp2_with fail
  rw [← HE.out]
  refine (BoxInt.awake _).mono ?_
  rintro e w1 ⟨rfl, hb1⟩
  have HB1 : Hid (Below w.heap.size w w1) := HA.out.trans (hb1.mono HA.out.size)
  clear hb1
  go_wp2_with fail
  refine (BoxInt.awake _).mono ?_
  rintro e w2 ⟨rfl, hb2⟩
  have HB2 := Lib.hid hb2; clear hb2
  go_wp2_with fail
  go_ret
  exact ⟨rfl, HB1.out.trans (HB2.out.mono HB1.out.size)⟩

set_option maxRecDepth 100000 in
set_option maxHeartbeats 40000000 in
theorem walk_short (a b c : Int) (A : Option Addr) (cap0 : Nat) (xs : List (Int × Int × Int)) (w : World) (hr : act.C w A xs.length xs) (hl : xs.length ≤ 80) :
    Calls Try.prog 16 #[.agg #[.int .i64 a, .int .i64 b, .int .i64 c], .slice A xs.length cap0] w fun e w' => e = .returned (.bool true) ∧ Below w.heap.size w w' := by
  have HC := Lib.hid hr; clear hr
  obtain ⟨wa, hwa⟩ : ∃ wa, wa = w.alloc (Obj.cells #[.int .i64 a, .int .i64 b, .int .i64 c] 75) := ⟨_, rfl⟩
  have HA : Hid (Below w.heap.size w wa) := by subst hwa; exact (Below.refl _ _).alloc (Nat.le_refl _) _
  have HBa : Hid (Blk wa w.heap.size #[.int .i64 a, .int .i64 b, .int .i64 c] 75) := by subst hwa; exact Blk.new _ _ _
  have HE := Lib.hid hwa
  clear hwa
  go_enter Try.func16, Try.ntmps16
  go_wp2_with fail
  rw [← HE.out]
  refine (BoxInt.awake _).mono ?_
  rintro e w1 ⟨rfl, hb1⟩
  have HB1 : Hid (Below w.heap.size w w1) := HA.out.trans (hb1.mono HA.out.size)
  have HBa1 : Hid (Blk w1 w.heap.size #[.int .i64 a, .int .i64 b, .int .i64 c] 75) := HBa.out.below hb1
  clear hb1 HE HBa HA
  go_upto_region 5 with fail
  obtain ⟨wk, hwk⟩ : ∃ wk, wk = (w1.alloc (Obj.cells #[Value.pointer none, Value.pointer none, Value.pointer none] 77)).alloc (Obj.cells #[Value.pointer none, Value.pointer none, Value.pointer none] 79) := ⟨_, rfl⟩
  have ST : Hid (Stg w w1.heap.size w.heap.size #[.pointer none, .pointer none, .pointer none] #[.pointer none, .pointer none, .pointer none] #[.int .i64 a, .int .i64 b, .int .i64 c] wk) := Lib.hid (by
    subst hwk
    exact ⟨(Blk.new _ _ _).alloc _, blk_at (by show _ = (w1.heap.push _).size; rw [Array.size_push]) _ _, (HBa1.out.alloc _).alloc _, ((Chg.refl (fun _ => False) w1).alloc _).alloc _ |>.onto HB1.out (Nat.le_refl _) (by simp), HB1.out.size, HBa1.out.lt⟩)
  rw [← hwk]
  clear hwk HBa1 HB1
  go_wp2_with fail
  refine wp_loop_rounds 4 ?_
  -- round 0
  rw [rounds_succ]
  obtain ⟨n0, hn0⟩ : ∃ n, BoxInt.sizeOf a = n := ⟨_, rfl⟩
  have HN0 := Lib.hid hn0; clear hn0
  have zc := ST.out.z.cell (j := 0) rfl
  obtain ⟨s0, hs⟩ : ∃ s, s = wk.heap.size := ⟨_, rfl⟩
  have SZ0 := Lib.hid hs; clear hs
  have HBB : Hid (w1.heap.size + 1 < s0) := Lib.hid (by rw [SZ0.out]; exact ST.out.lt.2)
  go_wp2_with fail
  refine (BoxInt.new a _).mono ?_
  rintro e wn ⟨B0, C0, D0, rfl, hp, hc, hB, hC, hD⟩
  rw [HN0.out] at hp
  have HLO0 : Hid (s0 ≤ B0 ∧ s0 ≤ C0 ∧ s0 ≤ D0) := Lib.hid (by rw [SZ0.out]; exact ⟨hB, hC, hD⟩)
  have ST1 := Lib.hid (ST.out.call hc)
  have hlt := ST1.out.lt
  have HP0 := Lib.hid (hp.keep ((Chg.refl (fun k => k = w1.heap.size) wn).set (p := ⟨w1.heap.size, 0, none⟩) (fun _ => rfl) (.pointer (some ⟨B0, 0, none⟩))) (ne_of ST.out.lt.1 hB) (ne_of ST.out.lt.1 hC) (ne_of ST.out.lt.1 hD))
  have tc := ST1.out.b.cell (j := 0) rfl
  have tf := ST1.out.b.free 0
  have HXB : Hid (¬ B0 = w1.heap.size ∧ ¬ C0 = w1.heap.size ∧ ¬ D0 = w1.heap.size ∧ ¬ B0 = w1.heap.size + 1 ∧ ¬ C0 = w1.heap.size + 1 ∧ ¬ D0 = w1.heap.size + 1) := Lib.hid ⟨ne_of ST.out.lt.1 hB, ne_of ST.out.lt.1 hC, ne_of ST.out.lt.1 hD, ne_of ST.out.lt.2 hB, ne_of ST.out.lt.2 hC, ne_of ST.out.lt.2 hD⟩
  clear hp hc hB hC hD zc ST hlt
  go_upto_region 9 with fail
  obtain ⟨wk, hwk⟩ : ∃ wk, wk = World.setCell wn ⟨w1.heap.size, 0, none⟩ (.pointer (some ⟨B0, 0, none⟩)) := ⟨_, rfl⟩
  have ST := Lib.hid (ST1.out.putB 0 (.pointer (some ⟨B0, 0, none⟩)))
  rw [← hwk] at HP0
  rw [← hwk] at ST
  rw [← hwk]
  clear tc tf hwk ST1
  have zc := ST.out.z.cell (j := 0) rfl
  obtain ⟨s1, hs⟩ : ∃ s, s = wk.heap.size := ⟨_, rfl⟩
  have SZ1 := Lib.hid hs; clear hs
  have HHI0 : Hid (B0 < s1 ∧ C0 < s1 ∧ D0 < s1) := Lib.hid (by rw [SZ1.out]; exact ⟨HP0.out.head.lt, HP0.out.vals.lt, HP0.out.done.lt⟩)
  go_wp2_with fail
  refine (new_ref a _).mono ?_
  rintro e wm ⟨M0, rfl, hp, hc, hM⟩
  rw [HN0.out] at hp
  have HML0 : Hid (s1 ≤ M0) := Lib.hid (by rw [SZ1.out]; exact hM)
  have ST1 := Lib.hid (ST.out.call hc)
  have tc := ST1.out.m.cell (j := 0) rfl
  have tf := ST1.out.m.free 0
  have HM0 := Lib.hid (hp.keep ((Chg.refl (fun k => k = w1.heap.size + 1) wm).set (p := ⟨w1.heap.size + 1, 0, none⟩) (fun _ => rfl) (.pointer (some ⟨M0, 0, none⟩))) (ne_of ST.out.lt.2 hM))
  replace HP0 := Lib.hid ((HP0.out.keep hc (by simp) (by simp) (by simp)).keep ((Chg.refl (fun k => k = w1.heap.size + 1) wm).set (p := ⟨w1.heap.size + 1, 0, none⟩) (fun _ => rfl) (.pointer (some ⟨M0, 0, none⟩))) HXB.out.2.2.2.1 HXB.out.2.2.2.2.1 HXB.out.2.2.2.2.2)
  have HX0 : Hid (¬ B0 = w1.heap.size ∧ ¬ C0 = w1.heap.size ∧ ¬ D0 = w1.heap.size ∧ ¬ M0 = w1.heap.size ∧ ¬ B0 = w1.heap.size + 1 ∧ ¬ C0 = w1.heap.size + 1 ∧ ¬ D0 = w1.heap.size + 1 ∧ ¬ M0 = w1.heap.size + 1) := Lib.hid ⟨HXB.out.1, HXB.out.2.1, HXB.out.2.2.1, ne_of ST.out.lt.1 hM, HXB.out.2.2.2.1, HXB.out.2.2.2.2.1, HXB.out.2.2.2.2.2, ne_of ST.out.lt.2 hM⟩
  clear hp hc hM zc ST HXB
  go_upto_region 10 with fail
  obtain ⟨wk, hwk⟩ : ∃ wk, wk = World.setCell wm ⟨w1.heap.size + 1, 0, none⟩ (.pointer (some ⟨M0, 0, none⟩)) := ⟨_, rfl⟩
  have ST := Lib.hid (ST1.out.putM 0 (.pointer (some ⟨M0, 0, none⟩)))
  rw [← hwk] at HP0 HM0
  rw [← hwk] at ST
  rw [← hwk]
  clear tc tf hwk ST1
  obtain ⟨s2', hs⟩ : ∃ s, s = wk.heap.size := ⟨_, rfl⟩
  have HMH0 : Hid (M0 < s2') := Lib.hid (by rw [hs]; exact HM0.out.lt)
  have SZ' := Lib.hid hs; clear hs
  have tb := ST.out.b.cell (j := 0) rfl
  have tm := ST.out.m.cell (j := 0) rfl
  have mc := HM0.out.cell (j := 0) rfl
  have HQ : Hid (∀ n, IsBox (wk.drewN n) B0 C0 D0 n0 [] false) := Lib.hid (fun n => HP0.out.keep ((Chg.refl (fun _ => False) _).drewN n) (by simp) (by simp) (by simp))
  go_quiet ((go_at_call 64; exact Calls.quiet_of_same ((BoxInt.cap B0 C0 D0 n0 [] false _ (HQ.out _)).mono (fun _ _ h => ⟨h.1, h.2.symm⟩))))
  clear tb tm mc HQ
  obtain ⟨wq, hwq⟩ : ∃ wq, wq = wk.drewN nq := ⟨_, rfl⟩
  have HCQ : Hid (Chg (fun _ => False) wk wq) := Lib.hid (by subst hwq; exact (Chg.refl _ _).drewN _)
  have HSQ2 : Hid (s2' = wq.heap.size) := Lib.hid (by subst hwq; exact SZ'.out)
  rw [← hwq]
  clear hwq
  replace HP0 := Lib.hid (HP0.out.keep HCQ.out (by simp) (by simp) (by simp))
  replace HM0 := Lib.hid (HM0.out.keep HCQ.out (by simp))
  replace ST := Lib.hid (ST.out.call HCQ.out)
  clear HCQ SZ'
  obtain ⟨wk, hwk⟩ : ∃ wk : World, wk = wq := ⟨_, rfl⟩
  subst hwk
  go_wp2_with fail
  -- round 1
  rw [rounds_succ]
  obtain ⟨n1, hn1⟩ : ∃ n, BoxInt.sizeOf b = n := ⟨_, rfl⟩
  have HN1 := Lib.hid hn1; clear hn1
  have zc := ST.out.z.cell (j := 1) rfl
  obtain ⟨s2, hs⟩ : ∃ s, s = wk.heap.size := ⟨_, rfl⟩
  have SZ2 := Lib.hid hs; clear hs
  go_wp2_with fail
  refine (BoxInt.new b _).mono ?_
  rintro e wn ⟨B1, C1, D1, rfl, hp, hc, hB, hC, hD⟩
  rw [HN1.out] at hp
  have HLO1 : Hid (s2 ≤ B1 ∧ s2 ≤ C1 ∧ s2 ≤ D1) := Lib.hid (by rw [SZ2.out]; exact ⟨hB, hC, hD⟩)
  have ST1 := Lib.hid (ST.out.call hc)
  have hlt := ST1.out.lt
  have HP1 := Lib.hid (hp.keep ((Chg.refl (fun k => k = w1.heap.size) wn).set (p := ⟨w1.heap.size, 1, none⟩) (fun _ => rfl) (.pointer (some ⟨B1, 0, none⟩))) (ne_of ST.out.lt.1 hB) (ne_of ST.out.lt.1 hC) (ne_of ST.out.lt.1 hD))
  replace HP0 := Lib.hid ((HP0.out.keep hc (by simp) (by simp) (by simp)).keep ((Chg.refl (fun k => k = w1.heap.size) wn).set (p := ⟨w1.heap.size, 1, none⟩) (fun _ => rfl) (.pointer (some ⟨B1, 0, none⟩))) HX0.out.1 HX0.out.2.1 HX0.out.2.2.1)
  replace HM0 := Lib.hid ((HM0.out.keep hc (by simp)).keep ((Chg.refl (fun k => k = w1.heap.size) wn).set (p := ⟨w1.heap.size, 1, none⟩) (fun _ => rfl) (.pointer (some ⟨B1, 0, none⟩))) HX0.out.2.2.2.1)
  have tc := ST1.out.b.cell (j := 1) rfl
  have tf := ST1.out.b.free 1
  have HXB : Hid (¬ B1 = w1.heap.size ∧ ¬ C1 = w1.heap.size ∧ ¬ D1 = w1.heap.size ∧ ¬ B1 = w1.heap.size + 1 ∧ ¬ C1 = w1.heap.size + 1 ∧ ¬ D1 = w1.heap.size + 1) := Lib.hid ⟨ne_of ST.out.lt.1 hB, ne_of ST.out.lt.1 hC, ne_of ST.out.lt.1 hD, ne_of ST.out.lt.2 hB, ne_of ST.out.lt.2 hC, ne_of ST.out.lt.2 hD⟩
  clear hp hc hB hC hD zc ST hlt
  go_upto_region 9 with fail
  obtain ⟨wk, hwk⟩ : ∃ wk, wk = World.setCell wn ⟨w1.heap.size, 1, none⟩ (.pointer (some ⟨B1, 0, none⟩)) := ⟨_, rfl⟩
  have ST := Lib.hid (ST1.out.putB 1 (.pointer (some ⟨B1, 0, none⟩)))
  rw [← hwk] at HP0
  rw [← hwk] at HP1
  rw [← hwk] at HM0
  rw [← hwk] at ST
  rw [← hwk]
  clear tc tf hwk ST1
  have zc := ST.out.z.cell (j := 1) rfl
  obtain ⟨s3, hs⟩ : ∃ s, s = wk.heap.size := ⟨_, rfl⟩
  have SZ3 := Lib.hid hs; clear hs
  have HHI1 : Hid (B1 < s3 ∧ C1 < s3 ∧ D1 < s3) := Lib.hid (by rw [SZ3.out]; exact ⟨HP1.out.head.lt, HP1.out.vals.lt, HP1.out.done.lt⟩)
  go_wp2_with fail
  refine (new_ref b _).mono ?_
  rintro e wm ⟨M1, rfl, hp, hc, hM⟩
  rw [HN1.out] at hp
  have HML1 : Hid (s3 ≤ M1) := Lib.hid (by rw [SZ3.out]; exact hM)
  have ST1 := Lib.hid (ST.out.call hc)
  have tc := ST1.out.m.cell (j := 1) rfl
  have tf := ST1.out.m.free 1
  have HM1 := Lib.hid (hp.keep ((Chg.refl (fun k => k = w1.heap.size + 1) wm).set (p := ⟨w1.heap.size + 1, 1, none⟩) (fun _ => rfl) (.pointer (some ⟨M1, 0, none⟩))) (ne_of ST.out.lt.2 hM))
  replace HP0 := Lib.hid ((HP0.out.keep hc (by simp) (by simp) (by simp)).keep ((Chg.refl (fun k => k = w1.heap.size + 1) wm).set (p := ⟨w1.heap.size + 1, 1, none⟩) (fun _ => rfl) (.pointer (some ⟨M1, 0, none⟩))) HX0.out.2.2.2.2.1 HX0.out.2.2.2.2.2.1 HX0.out.2.2.2.2.2.2.1)
  replace HP1 := Lib.hid ((HP1.out.keep hc (by simp) (by simp) (by simp)).keep ((Chg.refl (fun k => k = w1.heap.size + 1) wm).set (p := ⟨w1.heap.size + 1, 1, none⟩) (fun _ => rfl) (.pointer (some ⟨M1, 0, none⟩))) HXB.out.2.2.2.1 HXB.out.2.2.2.2.1 HXB.out.2.2.2.2.2)
  replace HM0 := Lib.hid ((HM0.out.keep hc (by simp)).keep ((Chg.refl (fun k => k = w1.heap.size + 1) wm).set (p := ⟨w1.heap.size + 1, 1, none⟩) (fun _ => rfl) (.pointer (some ⟨M1, 0, none⟩))) HX0.out.2.2.2.2.2.2.2)
  have HX1 : Hid (¬ B1 = w1.heap.size ∧ ¬ C1 = w1.heap.size ∧ ¬ D1 = w1.heap.size ∧ ¬ M1 = w1.heap.size ∧ ¬ B1 = w1.heap.size + 1 ∧ ¬ C1 = w1.heap.size + 1 ∧ ¬ D1 = w1.heap.size + 1 ∧ ¬ M1 = w1.heap.size + 1) := Lib.hid ⟨HXB.out.1, HXB.out.2.1, HXB.out.2.2.1, ne_of ST.out.lt.1 hM, HXB.out.2.2.2.1, HXB.out.2.2.2.2.1, HXB.out.2.2.2.2.2, ne_of ST.out.lt.2 hM⟩
  clear hp hc hM zc ST HXB
  go_upto_region 10 with fail
  obtain ⟨wk, hwk⟩ : ∃ wk, wk = World.setCell wm ⟨w1.heap.size + 1, 1, none⟩ (.pointer (some ⟨M1, 0, none⟩)) := ⟨_, rfl⟩
  have ST := Lib.hid (ST1.out.putM 1 (.pointer (some ⟨M1, 0, none⟩)))
  rw [← hwk] at HP0 HM0
  rw [← hwk] at HP1 HM1
  rw [← hwk] at ST
  rw [← hwk]
  clear tc tf hwk ST1
  obtain ⟨s4', hs⟩ : ∃ s, s = wk.heap.size := ⟨_, rfl⟩
  have HMH1 : Hid (M1 < s4') := Lib.hid (by rw [hs]; exact HM1.out.lt)
  have SZ' := Lib.hid hs; clear hs
  have tb := ST.out.b.cell (j := 1) rfl
  have tm := ST.out.m.cell (j := 1) rfl
  have mc := HM1.out.cell (j := 0) rfl
  have HQ : Hid (∀ n, IsBox (wk.drewN n) B1 C1 D1 n1 [] false) := Lib.hid (fun n => HP1.out.keep ((Chg.refl (fun _ => False) _).drewN n) (by simp) (by simp) (by simp))
  go_quiet ((go_at_call 64; exact Calls.quiet_of_same ((BoxInt.cap B1 C1 D1 n1 [] false _ (HQ.out _)).mono (fun _ _ h => ⟨h.1, h.2.symm⟩))))
  clear tb tm mc HQ
  obtain ⟨wq, hwq⟩ : ∃ wq, wq = wk.drewN nq := ⟨_, rfl⟩
  have HCQ : Hid (Chg (fun _ => False) wk wq) := Lib.hid (by subst hwq; exact (Chg.refl _ _).drewN _)
  have HSQ4 : Hid (s4' = wq.heap.size) := Lib.hid (by subst hwq; exact SZ'.out)
  rw [← hwq]
  clear hwq
  replace HP0 := Lib.hid (HP0.out.keep HCQ.out (by simp) (by simp) (by simp))
  replace HM0 := Lib.hid (HM0.out.keep HCQ.out (by simp))
  replace HP1 := Lib.hid (HP1.out.keep HCQ.out (by simp) (by simp) (by simp))
  replace HM1 := Lib.hid (HM1.out.keep HCQ.out (by simp))
  replace ST := Lib.hid (ST.out.call HCQ.out)
  clear HCQ SZ'
  obtain ⟨wk, hwk⟩ : ∃ wk : World, wk = wq := ⟨_, rfl⟩
  subst hwk
  go_wp2_with fail
  -- round 2
  rw [rounds_succ]
  obtain ⟨n2, hn2⟩ : ∃ n, BoxInt.sizeOf c = n := ⟨_, rfl⟩
  have HN2 := Lib.hid hn2; clear hn2
  have zc := ST.out.z.cell (j := 2) rfl
  obtain ⟨s4, hs⟩ : ∃ s, s = wk.heap.size := ⟨_, rfl⟩
  have SZ4 := Lib.hid hs; clear hs
  go_wp2_with fail
  refine (BoxInt.new c _).mono ?_
  rintro e wn ⟨B2, C2, D2, rfl, hp, hc, hB, hC, hD⟩
  rw [HN2.out] at hp
  have HLO2 : Hid (s4 ≤ B2 ∧ s4 ≤ C2 ∧ s4 ≤ D2) := Lib.hid (by rw [SZ4.out]; exact ⟨hB, hC, hD⟩)
  have ST1 := Lib.hid (ST.out.call hc)
  have hlt := ST1.out.lt
  have HP2 := Lib.hid (hp.keep ((Chg.refl (fun k => k = w1.heap.size) wn).set (p := ⟨w1.heap.size, 2, none⟩) (fun _ => rfl) (.pointer (some ⟨B2, 0, none⟩))) (ne_of ST.out.lt.1 hB) (ne_of ST.out.lt.1 hC) (ne_of ST.out.lt.1 hD))
  replace HP0 := Lib.hid ((HP0.out.keep hc (by simp) (by simp) (by simp)).keep ((Chg.refl (fun k => k = w1.heap.size) wn).set (p := ⟨w1.heap.size, 2, none⟩) (fun _ => rfl) (.pointer (some ⟨B2, 0, none⟩))) HX0.out.1 HX0.out.2.1 HX0.out.2.2.1)
  replace HM0 := Lib.hid ((HM0.out.keep hc (by simp)).keep ((Chg.refl (fun k => k = w1.heap.size) wn).set (p := ⟨w1.heap.size, 2, none⟩) (fun _ => rfl) (.pointer (some ⟨B2, 0, none⟩))) HX0.out.2.2.2.1)
  replace HP1 := Lib.hid ((HP1.out.keep hc (by simp) (by simp) (by simp)).keep ((Chg.refl (fun k => k = w1.heap.size) wn).set (p := ⟨w1.heap.size, 2, none⟩) (fun _ => rfl) (.pointer (some ⟨B2, 0, none⟩))) HX1.out.1 HX1.out.2.1 HX1.out.2.2.1)
  replace HM1 := Lib.hid ((HM1.out.keep hc (by simp)).keep ((Chg.refl (fun k => k = w1.heap.size) wn).set (p := ⟨w1.heap.size, 2, none⟩) (fun _ => rfl) (.pointer (some ⟨B2, 0, none⟩))) HX1.out.2.2.2.1)
  have tc := ST1.out.b.cell (j := 2) rfl
  have tf := ST1.out.b.free 2
  have HXB : Hid (¬ B2 = w1.heap.size ∧ ¬ C2 = w1.heap.size ∧ ¬ D2 = w1.heap.size ∧ ¬ B2 = w1.heap.size + 1 ∧ ¬ C2 = w1.heap.size + 1 ∧ ¬ D2 = w1.heap.size + 1) := Lib.hid ⟨ne_of ST.out.lt.1 hB, ne_of ST.out.lt.1 hC, ne_of ST.out.lt.1 hD, ne_of ST.out.lt.2 hB, ne_of ST.out.lt.2 hC, ne_of ST.out.lt.2 hD⟩
  clear hp hc hB hC hD zc ST hlt
  go_upto_region 9 with fail
  obtain ⟨wk, hwk⟩ : ∃ wk, wk = World.setCell wn ⟨w1.heap.size, 2, none⟩ (.pointer (some ⟨B2, 0, none⟩)) := ⟨_, rfl⟩
  have ST := Lib.hid (ST1.out.putB 2 (.pointer (some ⟨B2, 0, none⟩)))
  rw [← hwk] at HP0
  rw [← hwk] at HP1
  rw [← hwk] at HP2
  rw [← hwk] at HM0
  rw [← hwk] at HM1
  rw [← hwk] at ST
  rw [← hwk]
  clear tc tf hwk ST1
  have zc := ST.out.z.cell (j := 2) rfl
  obtain ⟨s5, hs⟩ : ∃ s, s = wk.heap.size := ⟨_, rfl⟩
  have SZ5 := Lib.hid hs; clear hs
  have HHI2 : Hid (B2 < s5 ∧ C2 < s5 ∧ D2 < s5) := Lib.hid (by rw [SZ5.out]; exact ⟨HP2.out.head.lt, HP2.out.vals.lt, HP2.out.done.lt⟩)
  go_wp2_with fail
  refine (new_ref c _).mono ?_
  rintro e wm ⟨M2, rfl, hp, hc, hM⟩
  rw [HN2.out] at hp
  have HML2 : Hid (s5 ≤ M2) := Lib.hid (by rw [SZ5.out]; exact hM)
  have ST1 := Lib.hid (ST.out.call hc)
  have tc := ST1.out.m.cell (j := 2) rfl
  have tf := ST1.out.m.free 2
  have HM2 := Lib.hid (hp.keep ((Chg.refl (fun k => k = w1.heap.size + 1) wm).set (p := ⟨w1.heap.size + 1, 2, none⟩) (fun _ => rfl) (.pointer (some ⟨M2, 0, none⟩))) (ne_of ST.out.lt.2 hM))
  replace HP0 := Lib.hid ((HP0.out.keep hc (by simp) (by simp) (by simp)).keep ((Chg.refl (fun k => k = w1.heap.size + 1) wm).set (p := ⟨w1.heap.size + 1, 2, none⟩) (fun _ => rfl) (.pointer (some ⟨M2, 0, none⟩))) HX0.out.2.2.2.2.1 HX0.out.2.2.2.2.2.1 HX0.out.2.2.2.2.2.2.1)
  replace HP1 := Lib.hid ((HP1.out.keep hc (by simp) (by simp) (by simp)).keep ((Chg.refl (fun k => k = w1.heap.size + 1) wm).set (p := ⟨w1.heap.size + 1, 2, none⟩) (fun _ => rfl) (.pointer (some ⟨M2, 0, none⟩))) HX1.out.2.2.2.2.1 HX1.out.2.2.2.2.2.1 HX1.out.2.2.2.2.2.2.1)
  replace HP2 := Lib.hid ((HP2.out.keep hc (by simp) (by simp) (by simp)).keep ((Chg.refl (fun k => k = w1.heap.size + 1) wm).set (p := ⟨w1.heap.size + 1, 2, none⟩) (fun _ => rfl) (.pointer (some ⟨M2, 0, none⟩))) HXB.out.2.2.2.1 HXB.out.2.2.2.2.1 HXB.out.2.2.2.2.2)
  replace HM0 := Lib.hid ((HM0.out.keep hc (by simp)).keep ((Chg.refl (fun k => k = w1.heap.size + 1) wm).set (p := ⟨w1.heap.size + 1, 2, none⟩) (fun _ => rfl) (.pointer (some ⟨M2, 0, none⟩))) HX0.out.2.2.2.2.2.2.2)
  replace HM1 := Lib.hid ((HM1.out.keep hc (by simp)).keep ((Chg.refl (fun k => k = w1.heap.size + 1) wm).set (p := ⟨w1.heap.size + 1, 2, none⟩) (fun _ => rfl) (.pointer (some ⟨M2, 0, none⟩))) HX1.out.2.2.2.2.2.2.2)
  have HX2 : Hid (¬ B2 = w1.heap.size ∧ ¬ C2 = w1.heap.size ∧ ¬ D2 = w1.heap.size ∧ ¬ M2 = w1.heap.size ∧ ¬ B2 = w1.heap.size + 1 ∧ ¬ C2 = w1.heap.size + 1 ∧ ¬ D2 = w1.heap.size + 1 ∧ ¬ M2 = w1.heap.size + 1) := Lib.hid ⟨HXB.out.1, HXB.out.2.1, HXB.out.2.2.1, ne_of ST.out.lt.1 hM, HXB.out.2.2.2.1, HXB.out.2.2.2.2.1, HXB.out.2.2.2.2.2, ne_of ST.out.lt.2 hM⟩
  clear hp hc hM zc ST HXB
  go_upto_region 10 with fail
  obtain ⟨wk, hwk⟩ : ∃ wk, wk = World.setCell wm ⟨w1.heap.size + 1, 2, none⟩ (.pointer (some ⟨M2, 0, none⟩)) := ⟨_, rfl⟩
  have ST := Lib.hid (ST1.out.putM 2 (.pointer (some ⟨M2, 0, none⟩)))
  rw [← hwk] at HP0 HM0
  rw [← hwk] at HP1 HM1
  rw [← hwk] at HP2 HM2
  rw [← hwk] at ST
  rw [← hwk]
  clear tc tf hwk ST1
  obtain ⟨s6', hs⟩ : ∃ s, s = wk.heap.size := ⟨_, rfl⟩
  have HMH2 : Hid (M2 < s6') := Lib.hid (by rw [hs]; exact HM2.out.lt)
  have SZ' := Lib.hid hs; clear hs
  have tb := ST.out.b.cell (j := 2) rfl
  have tm := ST.out.m.cell (j := 2) rfl
  have mc := HM2.out.cell (j := 0) rfl
  have HQ : Hid (∀ n, IsBox (wk.drewN n) B2 C2 D2 n2 [] false) := Lib.hid (fun n => HP2.out.keep ((Chg.refl (fun _ => False) _).drewN n) (by simp) (by simp) (by simp))
  go_quiet ((go_at_call 64; exact Calls.quiet_of_same ((BoxInt.cap B2 C2 D2 n2 [] false _ (HQ.out _)).mono (fun _ _ h => ⟨h.1, h.2.symm⟩))))
  clear tb tm mc HQ
  obtain ⟨wq, hwq⟩ : ∃ wq, wq = wk.drewN nq := ⟨_, rfl⟩
  have HCQ : Hid (Chg (fun _ => False) wk wq) := Lib.hid (by subst hwq; exact (Chg.refl _ _).drewN _)
  have HSQ6 : Hid (s6' = wq.heap.size) := Lib.hid (by subst hwq; exact SZ'.out)
  rw [← hwq]
  clear hwq
  replace HP0 := Lib.hid (HP0.out.keep HCQ.out (by simp) (by simp) (by simp))
  replace HM0 := Lib.hid (HM0.out.keep HCQ.out (by simp))
  replace HP1 := Lib.hid (HP1.out.keep HCQ.out (by simp) (by simp) (by simp))
  replace HM1 := Lib.hid (HM1.out.keep HCQ.out (by simp))
  replace HP2 := Lib.hid (HP2.out.keep HCQ.out (by simp) (by simp) (by simp))
  replace HM2 := Lib.hid (HM2.out.keep HCQ.out (by simp))
  replace ST := Lib.hid (ST.out.call HCQ.out)
  clear HCQ SZ'
  obtain ⟨wk, hwk⟩ : ∃ wk : World, wk = wq := ⟨_, rfl⟩
  subst hwk
  go_wp2_with fail

  rw [rounds_succ]
  obtain ⟨B, C, D, M, cap, hst⟩ := start (base := s6') (s0 := s0) (s1 := s1) (s2 := s2) (s3 := s3) (s4 := s4) (s5 := s5) ST.out HP0.out HP1.out HP2.out HM0.out HM1.out HM2.out (by
    have e2 : s2' = s2 := HSQ2.out.trans SZ2.out.symm
    have e4 : s4' = s4 := HSQ4.out.trans SZ4.out.symm
    have k1 := HBB.out; have k2 := HLO0.out; have k3 := HHI0.out; have k4 := HML0.out; have k5 := HMH0.out; have k6 := HLO1.out; have k7 := HHI1.out; have k8 := HML1.out; have k9 := HMH1.out
    have k10 := HLO2.out; have k11 := HHI2.out; have k12 := HML2.out; have k13 := HMH2.out; have k14 := ST.out.lo
    subst e2; subst e4
    constructor <;> (try simp only [tri]) <;> omega) (Nat.le_of_eq HSQ6.out)
  have HST := Lib.hid hst
  obtain ⟨BB, hBB⟩ : ∃ BB, w1.heap.size = BB := ⟨_, rfl⟩
  rw [hBB] at HST
  rw [hBB]
  clear hst HP0 HP1 HP2 HM0 HM1 HM2 HX0 HX1 HX2 ST HBB HLO0 HHI0 HML0 HMH0 HLO1 HHI1 HML1 HMH1 HLO2 HHI2 HML2 HMH2
  go_wp2_with fail
  go_loopg [8] xs.length (fun g s8 wr => ∃ i vs cl, i ≤ xs.length ∧ g = xs.length - i ∧ s8 = .int .i64 (i : Nat) ∧ St w BB (BB + 1) s6' B C D M cap wr vs vs cl cl)
  case atStart => exact ⟨0, _, _, by omega, by omega, rfl, HST.out⟩
  case round =>
    clear HST
    obtain ⟨i, vs, cl, hi, rfl, rfl, hst⟩ := hrel
    have HST := Lib.hid hst
    clear hst
    by_cases hlt : i < xs.length
    · obtain ⟨ad, rfl, hca⟩ := act_any HC.out hlt
      have HCA := Lib.hid hca; clear hca
      generalize xs[i] = x at HCA
      obtain ⟨x0, x1, x2⟩ := x
      obtain ⟨z0, z1, z2⟩ := HCA.out _ HST.out.bel
      clear z0
      go_wp2_with fail
      go_quiet ((go_at_call 51; exact Calls.quiet_of_same (rest3 _ _)))
      clear z1 z2
      have ht1 := rv_lt x1 3 (by decide)
      have ht2 := rv_lt x2 3 (by decide)
      generalize rv 3 x1 = t1 at ht1
      generalize rv 3 x2 = t2 at ht2
      obtain ⟨wq, hwq⟩ : ∃ wq, wq = wr.drewN nq := ⟨_, rfl⟩
      have HCQ : Hid (Chg (fun _ => False) wr wq) := Lib.hid (by subst hwq; exact (Chg.refl _ _).drewN _)
      have HS2 := Lib.hid (HST.out.same HCQ.out)
      rw [← hwq]
      clear hwq HCQ HST
      have tc := HS2.out.cells t1 ht1
      obtain ⟨tb, tm⟩ := tc
      go_wp2_with fail
      go_quiet (fail)
      clear tb tm
      obtain ⟨wp, hwp⟩ : ∃ wp, wp = wq.drewN nq := ⟨_, rfl⟩
      have HCQ : Hid (Chg (fun _ => False) wq wp) := Lib.hid (by subst hwp; exact (Chg.refl _ _).drewN _)
      have HS3 := Lib.hid (HS2.out.same HCQ.out)
      rw [← hwp]
      clear hwp HCQ HS2
      obtain ⟨z0, z1, z2⟩ := HCA.out _ HS3.out.bel
      go_wp2_with fail
      refine (rest5 _ _).mono ?_
      rintro e w4 ⟨rfl, hw⟩
      subst hw
      have ht0 : ((rv 5 x0 : Nat) : Int) = 0 ∨ ((rv 5 x0 : Nat) : Int) = 1 ∨ ((rv 5 x0 : Nat) : Int) = 2 ∨ ((rv 5 x0 : Nat) : Int) = 3 ∨ ((rv 5 x0 : Nat) : Int) = 4 := by have := rv_lt x0 5 (by decide); omega
      generalize ((rv 5 x0 : Nat) : Int) = t0 at ht0
      go_upto_block 4 with fail
      go_cut [] (fun wx => ∃ us dl, St w BB (BB + 1) s6' B C D M cap wx us us dl dl)
      case first =>
        rcases ht0 with rfl | rfl | rfl | rfl | rfl
        · -- Offer
          have hle := (HS3.out.box t1 ht1).le
          have hmost := (HS3.out.box t1 ht1).most
          have HML := Lib.hid (HS3.out.far.high t1 ht1).2.2
          have hcd : Chg (fun _ => False) w4 w4.drew := (Chg.refl (fun _ => False) w4).drew
          have HD : Hid (St w BB (BB + 1) s6' B C D M cap w4.drew vs vs cl cl) := Lib.hid (HS3.out.same hcd)
          clear hcd
          clear z1
          go_wp2_with fail
          go_region_with (first
            | (go_at_call 65; refine (off_ref _ (M t1) (cap t1) (vs t1) (cl t1) x2 _ (HA.out.ref t1 ht1) HML.out HA.out.low hle hmost).mono ?_; rintro e w6 ⟨rfl, hp, hc⟩; have HF := Lib.hid (HA.out.setRef ht1 hp hc); clear hp hc HA)
            | (go_at_call 46; refine (off_box (B t1) (C t1) (D t1) (cap t1) (vs t1) (cl t1) x2 _ (HG.out.box t1 ht1)).mono ?_; rintro e w6 ⟨rfl, hp, hc⟩; have HF := Lib.hid (HG.out.setBox ht1 hp hc); clear hp hc HG)
            | (go_at_call 46; refine (off_box (B t1) (C t1) (D t1) (cap t1) (vs t1) (cl t1) x2 _ (HD.out.box t1 ht1)).mono ?_; rintro e w5 ⟨rfl, hp, hc⟩; have HA := Lib.hid (HD.out.setBox ht1 hp hc); have y2 := (HCA.out _ HA.out.bel).2.2; clear hp hc HD)
            | (go_at_call 65; refine (off_ref _ (M t1) (cap t1) (vs t1) (cl t1) x2 _ (HD.out.ref t1 ht1) HML.out HD.out.low hle hmost).mono ?_; rintro e w5 ⟨rfl, hp, hc⟩; have HG := Lib.hid (HD.out.setRef ht1 hp hc); have y2 := (HCA.out _ HG.out.bel).2.2; clear hp hc HD))
          all_goals
            go_wp2_with fail
            go_meet
            exact ⟨_, _, HF.out⟩
        · -- Take
          have HML := Lib.hid (HS3.out.far.high t1 ht1).2.2
          clear z1 z2
          go_wp2_with fail
          refine (tk_box (B t1) (C t1) (D t1) (cap t1) (vs t1) (cl t1) _ (HS3.out.box t1 ht1)).mono ?_
          rintro e w5 ⟨rfl, hp, hc⟩
          have HA := Lib.hid (HS3.out.setBox ht1 hp hc)
          clear hp hc
          go_wp2_with fail
          refine (tk_ref _ (M t1) (cap t1) (vs t1) (cl t1) _ (HA.out.ref t1 ht1) HML.out).mono ?_
          rintro e w6 ⟨rfl, hp, hc⟩
          have HF := Lib.hid (HA.out.setRef ht1 hp hc)
          clear hp hc HA
          go_wp2_with fail
          go_meet
          exact ⟨_, _, HF.out⟩
        · -- Close
          have HML := Lib.hid (HS3.out.far.high t1 ht1).2.2
          have hcd : Chg (fun _ => False) w4 w4.drew := (Chg.refl (fun _ => False) w4).drew
          have HD : Hid (St w BB (BB + 1) s6' B C D M cap w4.drew vs vs cl cl) := Lib.hid (HS3.out.same hcd)
          obtain ⟨A0, c0, _, _, y2, _⟩ := HS3.out.refCells ht1
          obtain ⟨b1, hb1⟩ : ∃ b1, cl t1 = b1 := ⟨_, rfl⟩
          have HB1 := Lib.hid hb1
          rw [hb1] at y2
          clear hcd z1 z2 hb1
          cases b1
          all_goals
            go_wp2_with fail
            go_region_with (go_at_call 67; refine (cl_box (B t1) (C t1) (D t1) (cap t1) (vs t1) (cl t1) _ (HD.out.box t1 ht1)).mono ?_; rintro e w5 ⟨rfl, hp, hc⟩; rw [HB1.out]; have HA := Lib.hid (HD.out.setBox ht1 hp hc); have y3 := HA.out.refCells ht1; rw [HB1.out] at y3; obtain ⟨A3, c3, _, _, y3, y4⟩ := y3; clear hp hc)
          all_goals
            go_wp2_with fail
            go_meet
            exact ⟨_, _, HA.out.setRef ht1 (ref_shut (HA.out.ref t1 ht1) HML.out).1 (ref_shut (HA.out.ref t1 ht1) HML.out).2⟩
        · -- Pick
          have HML0 := Lib.hid (HS3.out.far.high 0 (by decide)).2.2
          have HML1 := Lib.hid (HS3.out.far.high 1 (by decide)).2.2
          have HML2 := Lib.hid (HS3.out.far.high 2 (by decide)).2.2
          obtain ⟨q0, _⟩ := HS3.out.cells 0 (by decide)
          obtain ⟨q1, _⟩ := HS3.out.cells 1 (by decide)
          obtain ⟨q2, _⟩ := HS3.out.cells 2 (by decide)
          clear z1 z2
          go_wp2_with fail
          obtain ⟨w5, hw5⟩ : ∃ w5, w5 = w4.alloc (Obj.cells #[.pointer (some ⟨B 0, 0, none⟩), .pointer (some ⟨B 1, 0, none⟩), .pointer none, .pointer (some ⟨B 2, 0, none⟩)] 55) := ⟨_, rfl⟩
          have hcd : Chg (fun _ => False) w4 w5 := by subst hw5; exact (Chg.refl _ _).alloc _
          have hbk : Blk w5 w4.heap.size #[.pointer (some ⟨B 0, 0, none⟩), .pointer (some ⟨B 1, 0, none⟩), .pointer none, .pointer (some ⟨B 2, 0, none⟩)] 55 := by subst hw5; exact Blk.new _ _ _
          have HD : Hid (St w BB (BB + 1) s6' B C D M cap w5 vs vs cl cl) := Lib.hid (HS3.out.same hcd)
          have HK := Lib.hid hbk
          rw [← hw5]
          clear hw5 hcd hbk q0 q1 q2
          have B0 := HD.out.box 0 (by decide)
          have B1 := HD.out.box 1 (by decide)
          have B2 := HD.out.box 2 (by decide)
          have R0 := HD.out.ref 0 (by decide)
          have R1 := HD.out.ref 1 (by decide)
          have R2 := HD.out.ref 2 (by decide)
          obtain ⟨v0, hv0⟩ : ∃ v0, vs 0 = v0 := ⟨_, rfl⟩
          obtain ⟨v1, hv1⟩ : ∃ v1, vs 1 = v1 := ⟨_, rfl⟩
          obtain ⟨v2, hv2⟩ : ∃ v2, vs 2 = v2 := ⟨_, rfl⟩
          rw [hv0] at B0 R0
          rw [hv1] at B1 R1
          rw [hv2] at B2 R2
          have HB0 := Lib.hid B0; have HB1 := Lib.hid B1; have HB2 := Lib.hid B2
          have HV0 := Lib.hid R0; have HV1 := Lib.hid R1; have HV2 := Lib.hid R2
          clear B0 B1 B2 R0 R1 R2 hv0 hv1 hv2
          rcases v0 with _ | ⟨y, ys⟩
          rotate_left
          · refine (pick_hit0 _ (B 0) (C 0) (D 0) (cap 0) y ys (cl 0) _ HB0.out (HK.out.cell (j := 0) rfl)).mono ?_
            rintro e w6 ⟨rfl, hp, hc⟩
            have HA := Lib.hid (HD.out.setBox (i := 0) (by decide) hp (hc.mono (fun _ _ e => Or.inl e)))
            have HV0 := Lib.hid (HV0.out.keep hc (by have := HD.out.far.both 0 0 (by decide) (by decide); omega) (by have := HD.out.far.high 0 (by decide); intro k hk; omega))
            clear hp hc
            go_wp2_with fail
            refine (picked_hit0 _ (BB + 1) (M 0) (cap 0) y ys (cl 0) _ HV0.out (HA.out.cells 0 (by decide)).2 HML0.out).mono ?_
            rintro e w7 ⟨rfl, hp, hc⟩
            have HF := Lib.hid (HA.out.setRef (i := 0) (by decide) hp hc)
            clear hp hc
            go_wp2_with fail
            go_meet
            exact ⟨_, _, HF.out⟩
          rcases v1 with _ | ⟨y, ys⟩
          rotate_left
          · refine (pick_hit1 _ (B 0) (C 0) (D 0) (cap 0) (B 1) (C 1) (D 1) (cap 1) y ys (cl 0) (cl 1) _ HB0.out HB1.out (HK.out.cell (j := 0) rfl) (HK.out.cell (j := 1) rfl)).mono ?_
            rintro e w6 ⟨rfl, hp, hc⟩
            have HA := Lib.hid (HD.out.setBox (i := 1) (by decide) hp (hc.mono (fun _ _ e => Or.inl e)))
            have HV0 := Lib.hid (HV0.out.keep hc (by have := HD.out.far.both 0 1 (by decide) (by decide); omega) (by have := HD.out.far.high 1 (by decide); intro k hk; omega))
            have HV1 := Lib.hid (HV1.out.keep hc (by have := HD.out.far.both 1 1 (by decide) (by decide); omega) (by have := HD.out.far.high 1 (by decide); intro k hk; omega))
            clear hp hc
            go_wp2_with fail
            refine (picked_hit1 _ (BB + 1) (M 0) (cap 0) (M 1) (cap 1) y ys (cl 0) (cl 1) _ HV0.out HV1.out (HA.out.cells 0 (by decide)).2 (HA.out.cells 1 (by decide)).2 HML1.out).mono ?_
            rintro e w7 ⟨rfl, hp, hc⟩
            have HF := Lib.hid (HA.out.setRef (i := 1) (by decide) hp hc)
            clear hp hc
            go_wp2_with fail
            go_meet
            exact ⟨_, _, HF.out⟩
          rcases v2 with _ | ⟨y, ys⟩
          rotate_left
          · refine (pick_hit2 _ (B 0) (C 0) (D 0) (cap 0) (B 1) (C 1) (D 1) (cap 1) (B 2) (C 2) (D 2) (cap 2) y ys (cl 0) (cl 1) (cl 2) _ HB0.out HB1.out HB2.out (HK.out.cell (j := 0) rfl) (HK.out.cell (j := 1) rfl) (HK.out.cell (j := 2) rfl) (HK.out.cell (j := 3) rfl)).mono ?_
            rintro e w6 ⟨rfl, hp, hc⟩
            have HA := Lib.hid (HD.out.setBox (i := 2) (by decide) hp (hc.mono (fun _ _ e => Or.inl e)))
            have HV0 := Lib.hid (HV0.out.keep hc (by have := HD.out.far.both 0 2 (by decide) (by decide); omega) (by have := HD.out.far.high 2 (by decide); intro k hk; omega))
            have HV1 := Lib.hid (HV1.out.keep hc (by have := HD.out.far.both 1 2 (by decide) (by decide); omega) (by have := HD.out.far.high 2 (by decide); intro k hk; omega))
            have HV2 := Lib.hid (HV2.out.keep hc (by have := HD.out.far.both 2 2 (by decide) (by decide); omega) (by have := HD.out.far.high 2 (by decide); intro k hk; omega))
            clear hp hc
            go_wp2_with fail
            refine (picked_hit2 _ (BB + 1) (M 0) (cap 0) (M 1) (cap 1) (M 2) (cap 2) y ys (cl 0) (cl 1) (cl 2) _ HV0.out HV1.out HV2.out (HA.out.cells 0 (by decide)).2 (HA.out.cells 1 (by decide)).2 (HA.out.cells 2 (by decide)).2 HML2.out).mono ?_
            rintro e w7 ⟨rfl, hp, hc⟩
            have HF := Lib.hid (HA.out.setRef (i := 2) (by decide) hp hc)
            clear hp hc
            go_wp2_with fail
            go_meet
            exact ⟨_, _, HF.out⟩
          refine (pick_none _ (B 0) (C 0) (D 0) (cap 0) (B 1) (C 1) (D 1) (cap 1) (B 2) (C 2) (D 2) (cap 2) (cl 0) (cl 1) (cl 2) _ HB0.out HB1.out HB2.out (HK.out.cell (j := 0) rfl) (HK.out.cell (j := 1) rfl) (HK.out.cell (j := 2) rfl) (HK.out.cell (j := 3) rfl)).mono ?_
          rintro e w6 ⟨rfl, rfl⟩
          go_wp2_with fail
          refine (picked_none _ (BB + 1) (M 0) (cap 0) (M 1) (cap 1) (M 2) (cap 2) (cl 0) (cl 1) (cl 2) _ HV0.out HV1.out HV2.out (HD.out.cells 0 (by decide)).2 (HD.out.cells 1 (by decide)).2 (HD.out.cells 2 (by decide)).2).mono ?_
          rintro e w7 ⟨rfl, rfl⟩
          go_wp2_with fail
          go_meet
          exact ⟨_, _, HD.out⟩
        · -- Pour
          have tc1 := HS3.out.cells t1 ht1
          have tc2 := HS3.out.cells t2 ht2
          obtain ⟨_, tm⟩ := tc2
          have tb := (HS3.out.cells t2 ht2).1
          clear z1 z2 tc1
          by_cases hne : t1 = t2
          · subst hne
            go_wp2_with fail
            refine (BoxNil.pour_same (B t1) _).mono ?_
            rintro e w5 ⟨rfl, rfl⟩
            go_wp2_with fail
            go_meet
            exact ⟨_, _, HS3.out⟩
          · have hne1 : ((t1 : Nat) == t2) = false := by simp; omega
            have hne2 : ((t1 : Int) == (t2 : Int)) = false := by simp; omega
            have hne3 : ((t1 : Int) != (t2 : Int)) = true := by simp; omega
            have HNE := Lib.hid hne
            have HML1 := Lib.hid (HS3.out.far.high t1 ht1).2.2
            have HML2 := Lib.hid (HS3.out.far.high t2 ht2).2.2
            have HLE := Lib.hid (And.intro (HS3.out.box t2 ht2).le (HS3.out.box t2 ht2).most)
            go_wp2_with fail
            refine (pour_ref _ (M t1) (cap t1) (vs t1) (cl t1) (M t2) (cap t2) (vs t2) (cl t2) _ (HS3.out.ref t1 ht1) (HS3.out.ref t2 ht2) (HS3.out.far.ref t1 t2 ht1 ht2 HNE.out) HML1.out HML2.out HS3.out.low HLE.out.1 HLE.out.2).mono ?_
            rintro e w5 ⟨rfl, hp, hq, hc⟩
            have HA := Lib.hid (HS3.out.setRef2 ht1 ht2 HNE.out hp hq hc)
            have tb := (HA.out.cells t2 ht2).1
            clear hp hq hc
            go_wp2_with fail
            refine (pour_any (B t1) (C t1) (D t1) (cap t1) (vs t1) (cl t1) (B t2) (C t2) (D t2) (cap t2) (vs t2) (cl t2) _ (HA.out.box t1 ht1) (HA.out.box t2 ht2) (HA.out.far.box t1 t2 ht1 ht2 HNE.out)).mono ?_
            rintro e w6 ⟨rfl, hp, hq, hc⟩
            have HF := Lib.hid (HA.out.setBox2 ht1 ht2 HNE.out hp hq hc)
            clear hp hq hc HA
            go_wp2_with fail
            go_meet
            exact ⟨_, _, HF.out⟩
      case rest =>
        clear HS3 z1 z2
        obtain ⟨us, dl, hst⟩ := hcut
        obtain ⟨wz, hwz⟩ : ∃ wz : World, wz = wc := ⟨_, rfl⟩
        subst hwz
        have HS := Lib.hid hst
        clear hst
        go_wp2_with fail
        refine wp_loop_rounds 4 ?_
        rw [rounds_succ]
        obtain ⟨tb, tm⟩ := HS.out.cells 0 (by decide)
        obtain ⟨A0, c0, _, m1, m2, _⟩ := HS.out.refCells (k := 0) (by decide)
        have HQ : Hid (∀ n, IsBox (wz.drewN n) (B 0) (C 0) (D 0) (cap 0) (us 0) (dl 0)) := Lib.hid (fun n => (HS.out.box 0 (by decide)).keep ((Chg.refl (fun _ => False) _).drewN n) (by simp) (by simp) (by simp))
        go_wp2_with fail
        go_quiet ((first | (go_at_call 49; exact Calls.quiet_of_same ((BoxInt.len (B 0) (C 0) (D 0) (cap 0) (us 0) (dl 0) _ (HQ.out _)).mono (fun _ _ h => ⟨h.1, h.2.symm⟩))) | (go_at_call 70; exact Calls.quiet_of_same (BoxInt.closed (B 0) (C 0) (D 0) (cap 0) (us 0) (dl 0) _ (HQ.out _)))))
        clear tb tm m1 m2 HQ
        obtain ⟨wy, hwy⟩ : ∃ wy, wy = wz.drewN nq := ⟨_, rfl⟩
        have HCQ : Hid (Chg (fun _ => False) wz wy) := Lib.hid (by subst hwy; exact (Chg.refl _ _).drewN _)
        replace HS := Lib.hid (HS.out.same HCQ.out)
        rw [← hwy]
        clear hwy HCQ
        obtain ⟨wz, hwz⟩ : ∃ wz : World, wz = wy := ⟨_, rfl⟩
        subst hwz
        go_wp2_with fail
        rw [rounds_succ]
        obtain ⟨tb, tm⟩ := HS.out.cells 1 (by decide)
        obtain ⟨A1, c1, _, m1, m2, _⟩ := HS.out.refCells (k := 1) (by decide)
        have HQ : Hid (∀ n, IsBox (wz.drewN n) (B 1) (C 1) (D 1) (cap 1) (us 1) (dl 1)) := Lib.hid (fun n => (HS.out.box 1 (by decide)).keep ((Chg.refl (fun _ => False) _).drewN n) (by simp) (by simp) (by simp))
        go_wp2_with fail
        go_quiet ((first | (go_at_call 49; exact Calls.quiet_of_same ((BoxInt.len (B 1) (C 1) (D 1) (cap 1) (us 1) (dl 1) _ (HQ.out _)).mono (fun _ _ h => ⟨h.1, h.2.symm⟩))) | (go_at_call 70; exact Calls.quiet_of_same (BoxInt.closed (B 1) (C 1) (D 1) (cap 1) (us 1) (dl 1) _ (HQ.out _)))))
        clear tb tm m1 m2 HQ
        obtain ⟨wy, hwy⟩ : ∃ wy, wy = wz.drewN nq := ⟨_, rfl⟩
        have HCQ : Hid (Chg (fun _ => False) wz wy) := Lib.hid (by subst hwy; exact (Chg.refl _ _).drewN _)
        replace HS := Lib.hid (HS.out.same HCQ.out)
        rw [← hwy]
        clear hwy HCQ
        obtain ⟨wz, hwz⟩ : ∃ wz : World, wz = wy := ⟨_, rfl⟩
        subst hwz
        go_wp2_with fail
        rw [rounds_succ]
        obtain ⟨tb, tm⟩ := HS.out.cells 2 (by decide)
        obtain ⟨A2, c2, _, m1, m2, _⟩ := HS.out.refCells (k := 2) (by decide)
        have HQ : Hid (∀ n, IsBox (wz.drewN n) (B 2) (C 2) (D 2) (cap 2) (us 2) (dl 2)) := Lib.hid (fun n => (HS.out.box 2 (by decide)).keep ((Chg.refl (fun _ => False) _).drewN n) (by simp) (by simp) (by simp))
        go_wp2_with fail
        go_quiet ((first | (go_at_call 49; exact Calls.quiet_of_same ((BoxInt.len (B 2) (C 2) (D 2) (cap 2) (us 2) (dl 2) _ (HQ.out _)).mono (fun _ _ h => ⟨h.1, h.2.symm⟩))) | (go_at_call 70; exact Calls.quiet_of_same (BoxInt.closed (B 2) (C 2) (D 2) (cap 2) (us 2) (dl 2) _ (HQ.out _)))))
        clear tb tm m1 m2 HQ
        obtain ⟨wy, hwy⟩ : ∃ wy, wy = wz.drewN nq := ⟨_, rfl⟩
        have HCQ : Hid (Chg (fun _ => False) wz wy) := Lib.hid (by subst hwy; exact (Chg.refl _ _).drewN _)
        replace HS := Lib.hid (HS.out.same HCQ.out)
        rw [← hwy]
        clear hwy HCQ
        obtain ⟨wz, hwz⟩ : ∃ wz : World, wz = wy := ⟨_, rfl⟩
        subst hwz
        go_wp2_with fail
        rw [rounds_succ]
        go_wp2_with fail
        go_roundg (xs.length - (i + 1))
        case measure => omega
        case rel => exact ⟨i + 1, us, dl, by omega, rfl, by go_num, HS.out⟩
    · have e : i = xs.length := by omega
      subst e
      go_wp2_with fail
      go_ret
      exact ⟨rfl, HST.out.bel⟩

theorem cells (z : Int × Int × Int) {w : World} {cs : List Value} (h : (Kd.pair (Kd.int .i64) (Kd.pair (Kd.int .i64) (Kd.int .i64))).K w z cs) : True ∧ cs = [.int .i64 z.1, .int .i64 z.2.1, .int .i64 z.2.2] := by
  obtain ⟨c0, c1, rfl, h0, c2, c3, rfl, h1, h2⟩ := h
  have h0 : c0 = [.int .i64 z.1] := h0
  have h1 : c2 = [.int .i64 z.2.1] := h1
  have h2 : c3 = [.int .i64 z.2.2] := h2
  subst h0; subst h1; subst h2
  exact ⟨trivial, rfl⟩
theorem walk_row {p : Int × Int × Int → Prop} {q : Prop} (z : Int × Int × Int) (A : Option Addr) (len cap0 : Nat) (xs : List (Int × Int × Int)) (w : World) (_ : True) (_ : q) (hr : act.C w A len xs) (_ : len ≤ cap0) (_ : ∀ x ∈ xs, p x) :
    Calls Try.prog 16 #[.agg #[.int .i64 z.1, .int .i64 z.2.1, .int .i64 z.2.2], .slice A len cap0] w fun e w' => e = .returned (.bool true) ∧ Below w.heap.size w w' := by
  by_cases hbig : 80 < len
  · exact walk_long _ _ _ A len cap0 w hbig
  · have e0 := Kd.C_len hr
    subst e0
    exact walk_short _ _ _ A cap0 xs w hr (by omega)
end Go.Proofs.Ytfkbijkmdnieiaa.BoxActs
