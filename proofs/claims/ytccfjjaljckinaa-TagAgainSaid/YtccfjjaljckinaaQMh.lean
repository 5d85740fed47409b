/- Tables and their document, part Mh of this seat's texts: plain facts and walks. No conditions. -/
import Derived.Test.YtccfjjaljckinaaQMg
import Derived.Test.YtccfjjaljckinaaQRg
import Derived.Deep.QuietTactic
import Derived.BigQuiet
/- A table beside the document's, and what was ever told. No conditions. -/
namespace Go.Proofs.Ytccfjjaljckinaa.Tag
open Go.RowKit Go.Lib Go.Proofs.Ytccfjjaljckinaa.Mem Go.Proofs.Ytccfjjaljckinaa.IMap Go.Proofs.YtccfjjaljckinaaW.PrintWords Go.Proofs.Ytccfjjaljckinaa.PTagActs

theorem rmoveAt {w : World} {S : Nat → Prop} {D : Nat} {r : RTab} (h : RefAt w S D r) (hl : r.l.length ≤ 1000000) (hr : Ref) (x : Int) :
    Calls Try.prog 41 #[.pointer (some ⟨D, 0, none⟩), .agg #[.int .i64 hr.i, .int .i64 hr.g], .int .i64 x] w fun e w' => e = .returned (.int .i64 (rmove r hr x).1) ∧
      (∃ S', RefAt w' S' D (rmove r hr x).2 ∧ ∀ k, S' k → Wide S w k) ∧ Chg (fun k => k = D) w w' := by
  rcases idxI_cases (hasRef hr) r.l with ⟨hn, _⟩ | ⟨i, y, hn, hy, _⟩
  · have e : rmove r hr x = (13, r) := by
      unfold rmove
      rw [hn]
      split
      · rw [if_neg (by omega)]
      · rfl
    rw [e]
    refine (rmove_none h hl hr x hn).mono ?_
    rintro e w' ⟨rfl, hb⟩
    exact ⟨rfl, ⟨S, h.below hb, fun k hk => Or.inl hk⟩, Chg.of_below hb⟩
  · have e : rmove r hr x = (if 0 ≤ idxI (fun y => y.o.time == x) r.l ∧ idxI (fun y => y.o.time == x) r.l ≠ (i : Int) then (11, r)
       else (0, { r with l := addL (r.l.eraseIdx i) ⟨y.r, { y.o with time := x }⟩ })) := by
      unfold rmove
      rw [hn, Int.toNat_natCast, hy]
      simp only
      rw [if_pos (by omega)]
    refine (rmove_some h hl hr x hn hy).mono ?_
    rintro e' w' ⟨rfl, h2, h3⟩
    rw [e]
    by_cases hc : 0 ≤ idxI (fun y => y.o.time == x) r.l ∧ idxI (fun y => y.o.time == x) r.l ≠ (i : Int)
    · rw [if_pos hc] at h2 ⊢
      rw [if_pos hc]
      exact ⟨rfl, h2, h3⟩
    · rw [if_neg hc] at h2 ⊢
      rw [if_neg hc]
      exact ⟨rfl, h2, h3⟩
theorem rmoveAt' {w : World} {S : Nat → Prop} {D : Nat} {r : RTab} (h : RefAt w S D r) (hl : r.l.length ≤ 1000000) (hr : Ref) (x : Int) {E : Int} (he : (rmove r hr x).1 = E) :
    Calls Try.prog 41 #[.pointer (some ⟨D, 0, none⟩), .agg #[.int .i64 hr.i, .int .i64 hr.g], .int .i64 x] w fun e w' => e = .returned (.int .i64 E) ∧
      (∃ S', RefAt w' S' D (rmove r hr x).2 ∧ ∀ k, S' k → Wide S w k) ∧ Chg (fun k => k = D) w w' := by
  subst he
  exact rmoveAt h hl hr x
theorem rreviveAt' {w : World} {S : Nat → Prop} {D : Nat} {r : RTab} (h : RefAt w S D r) (hl : r.l.length ≤ 1000000) (x : Listed) {E : Int} (he : rreviveE r x = E) :
    Calls Try.prog 40 #[.pointer (some ⟨D, 0, none⟩), aggL x] w fun e w' => e = .returned (.int .i64 E) ∧
      (∃ S', RefAt w' S' D (rreviveT r x) ∧ ∀ k, S' k → Wide S w k) ∧ Chg (fun k => k = D) w w' := by
  subst he
  exact rreviveAt h hl x
theorem TabAt.wider {w : World} {O O' : Nat → Prop} {B : Nat} {t : Tab} (h : TabAt w O B t) (hO : ∀ k, O k → O' k) : TabAt w O' B t := by
  obtain ⟨M, v, h, h1, h2, h3⟩ := h
  exact ⟨M, v, h, hO _ h1, hO _ h2, fun k hk => hO _ (h3 k hk)⟩
/-- The table at B (its blocks O), the document's at D (its rows' blocks S), what was told (blocks U); all from block N on; m acts at the most. -/
structure Duo (N m : Nat) (w : World) (O S U : Nat → Prop) (B D : Nat) (t : Tab) (r : RTab) (A : Option Addr) (c : Nat) (told : List Listed) : Prop where
  tab : TabAt w O B t
  ref : RefAt w S D r
  rel : Rel t r
  row : Kd.F k34 w U A told.length (sL told)
  cap : told.length ≤ c
  o : ∀ k, O k → N ≤ k ∧ k < w.heap.size ∧ k ≠ D ∧ ¬ S k ∧ ¬ U k
  u : ∀ k, U k → k < w.heap.size ∧ k ≠ D
  d : N ≤ D
  n : N ≤ w.heap.size
  few : t.slots.length ≤ m
  ser : 0 ≤ t.serial ∧ t.serial ≤ m
  len : told.length ≤ m
  fits : ∀ l ∈ told, In64O l.o

section
variable {N m : Nat} {w w' : World} {O S U : Nat → Prop} {B D : Nat} {t : Tab} {r : RTab} {A : Option Addr} {c : Nat} {told : List Listed}
theorem Duo.below (h : Duo N m w O S U B D t r A c told) (hb : Below w.heap.size w w') : Duo N m w' O S U B D t r A c told :=
  ⟨h.tab.below hb, h.ref.below hb, h.rel, Kd.F_below h.row hb, h.cap, fun k hk => ⟨(h.o k hk).1, Nat.lt_of_lt_of_le (h.o k hk).2.1 hb.size, (h.o k hk).2.2⟩, fun k hk => ⟨Nat.lt_of_lt_of_le (h.u k hk).1 hb.size, (h.u k hk).2⟩, h.d, Nat.le_trans h.n hb.size, h.few, h.ser, h.len, h.fits⟩
theorem Duo.more (h : Duo N m w O S U B D t r A c told) {m' : Nat} (hm : m ≤ m') : Duo N m' w O S U B D t r A c told :=
  ⟨h.tab, h.ref, h.rel, h.row, h.cap, h.o, h.u, h.d, h.n, by have := h.few; omega, ⟨h.ser.1, by have := h.ser.2; omega⟩, by have := h.len; omega, h.fits⟩
/-- The table has turned: the document's lies as it did. -/
theorem Duo.refKeep (h : Duo N m w O S U B D t r A c told) (hc : Chg O w w') : RefAt w' S D r := h.ref.keep hc (fun hD => (h.o D hD).2.2.1 rfl) (fun k hk ho => (h.o k ho).2.2.2.1 hk)
theorem Duo.rowKeep (h : Duo N m w O S U B D t r A c told) (hc : Chg O w w') : Kd.F k34 w' U A told.length (sL told) := Kd.F_step h.row (fun k hk hl => hc.block k hl (fun ho => (h.o k ho).2.2.2.2 hk))
theorem Duo.belowN (h : Duo N m w O S U B D t r A c told) (hc : Chg O w w') : Below N w w' := hc.below (fun k hk _ ho => by have := (h.o k ho).1; omega) h.n
theorem lastsPos (g : Good t) (hrel : Rel t r) : ∀ v ∈ r.lasts, 0 ≤ v := by
  intro v hv
  rw [hrel.lasts] at hv
  unfold lastsOf at hv
  obtain ⟨s, hs, rfl⟩ := List.mem_map.1 hv
  exact (g.slots s hs).last0
/-- Both have turned. -/
theorem Duo.both (h : Duo N m w O S U B D t r A c told) {w1 w2 : World} {O' S' : Nat → Prop} {t' : Tab} {r' : RTab} {m' : Nat} (hO : O' = O ∨ O' = More O w w1) (hc1 : Chg O w w1) (ht : TabAt w1 O' B t') (hS : ∀ k, S' k → Wide S w1 k) (hc2 : Chg (fun k => k = D) w1 w2) (hr : RefAt w2 S' D r')
    (hrel : Rel t' r') (hm : m ≤ m') (hf : t'.slots.length ≤ m') (hs : 0 ≤ t'.serial ∧ t'.serial ≤ m') : Duo N m' w2 O' S' U B D t' r' A c told ∧ Below N w w2 := by
  have hD : D < w.heap.size := h.ref.lt
  have hO' : ∀ k, O' k → O k ∨ (w.heap.size ≤ k ∧ k < w1.heap.size) := by
    rcases hO with rfl | rfl
    · exact fun k hk => Or.inl hk
    · exact fun k hk => hk
  have z1 := hc1.size
  have z2 := hc2.size
  have hUk : ∀ k, U k → k < w.heap.size := fun k hk => (h.u k hk).1
  refine ⟨⟨ht.keep hc2 (fun k hk e => ?_), hr, hrel, Kd.F_step (h.rowKeep hc1) (fun k hk hl => hc2.block k hl (fun e => (h.u k hk).2 e)), h.cap, fun k hk => ?_, fun k hk => ⟨by have := hUk k hk; omega, (h.u k hk).2⟩, h.d, by have := h.n; omega, hf, hs, by have := h.len; omega, h.fits⟩, ?_⟩
  · rcases hO' k hk with ho | ho
    · exact (h.o k ho).2.2.1 e
    · omega
  · rcases hO' k hk with ho | ho
    · obtain ⟨a1, a2, a3, a4, a5⟩ := h.o k ho
      refine ⟨a1, by omega, a3, fun hs' => ?_, a5⟩
      rcases hS k hs' with hs' | hs'
      · exact a4 hs'
      · omega
    · have := h.n
      refine ⟨by omega, by omega, by omega, fun hs' => ?_, fun hu => by have := hUk k hu; omega⟩
      rcases hS k hs' with hs' | hs'
      · have := (h.ref.keep hc1 (fun hD => (h.o D hD).2.2.1 rfl) (fun k hk ho => (h.o k ho).2.2.2.1 hk))
        obtain ⟨_, _, _, _, _, _, _, _, _, h5⟩ := h.ref
        have := (h5 k hs').2; omega
      · omega
  · exact (h.belowN hc1).trans (hc2.below (fun k hk _ e => by have := h.d; omega) (by have := h.n; omega))
end

/-- What an act speaks of. -/
def pickX (told : List Listed) (kind place : Int) (tld : Bool) (x : Listed) : Listed :=
  if tld = true ∧ told ≠ [] then (match told[(restI place told.length).toNat]? with | some y => if restI kind 4 = 2 then y else ⟨y.r, x.o⟩ | none => x) else x
/-- What becomes of the table, and of what was told. -/
def doT (t : Tab) (told : List Listed) (kind : Int) (x : Listed) : Tab × List Listed :=
  if restI kind 4 = 0 then (if mayE t x.o.time = 0 then (issueT t x.o.time x.o.ins x.o.key, told ++ [⟨⟨freeI t, lastI t + 1⟩, issueOp t x.o.time x.o.ins x.o.key⟩]) else (t, told))
  else if restI kind 4 = 1 then ((dropR t x.r).2.2, told) else if restI kind 4 = 2 then (reviveT t x, told) else ((moveR t x.r x.o.time).2, told)
end Go.Proofs.Ytccfjjaljckinaa.Tag
/- One told more: a region that appends twice. No conditions. -/
namespace Go.Proofs.Ytccfjjaljckinaa.Tag
open Go.RowKit Go.Lib Go.Shelf Go.Proofs.Ytccfjjaljckinaa.Mem Go.Proofs.Ytccfjjaljckinaa.IMap Go.Proofs.Ytccfjjaljckinaa.Rg Go.Proofs.YtccfjjaljckinaaW.PrintWords Go.Proofs.YtccfjjaljckinaaW.PrintLast Go.Proofs.YtccfjjaljckinaaW.PrintMore Go.Proofs.Ytccfjjaljckinaa.PTagActs
set_option linter.unusedVariables false
set_option linter.unusedSimpArgs false

abbrev RowT (w0 w' : World) (v : Value) (l : List Listed) : Prop := Kd.R k34 34 w' w0.heap.size (fun k => w0.heap.size ≤ k) v (sL l)
structure DoF (w0 : World) (tv : Value) (told : List Listed) (x : Listed) (d : Nat → Bool) (vs : List Value) (w' : World) : Prop where
  bel : Below w0.heap.size w0 w'
  shape : ∃ u0 u1 u2 u3 u4 u5 u6, vs = [u0, u1, u2, u3, u4, u5, u6]
  v0 : d 0 = true → d 2 = false → RowT w0 w' (vs.getD 0 undef) []
  v1 : d 1 = true → vs.getD 1 undef = tv
  v2 : d 2 = true → d 5 = false → RowT w0 w' (vs.getD 2 undef) told
  v3 : d 3 = true → vs.getD 3 undef = aggL x
  v4 : d 4 = true → ∃ X, vs.getD 4 undef = .slice (some ⟨X, 0, none⟩) 1 1 ∧ Blk w' X (encL x).toArray 34 ∧ (d 0 = true → d 2 = false → (vs.getD 0 undef).ownBlock ≠ some X) ∧ (d 2 = true → d 5 = false → (vs.getD 2 undef).ownBlock ≠ some X)
  v5 : d 5 = true → RowT w0 w' (vs.getD 5 undef) (told ++ [x])
  v6 : d 6 = true → vs.getD 6 undef = vs.getD 5 undef
  w6 : d 6 = false → vs.getD 6 undef = tv
  c2 : d 2 = true → d 0 = true ∧ d 1 = true
  c4 : d 4 = true → d 3 = true
  c5 : d 5 = true → d 2 = true ∧ d 4 = true
  c6 : d 6 = true → d 5 = true ∧ d 1 = true

theorem row_below {w0 w1 w2 : World} {v : Value} {l : List Listed} (h : RowT w0 w1 v l) (hb : Below w1.heap.size w1 w2) : RowT w0 w2 v l := Kd.R_step h (fun k _ hl => hb.block k hl)
theorem one_C {w : World} {X : Nat} {x : Listed} (h : Blk w X (encL x).toArray 34) : Kd.C k34 w (some ⟨X, 0, none⟩) 1 [toS x] := by
  refine ⟨rfl, by decide, fun _ => ⟨⟨X, 0, none⟩, rfl, fun j p hj => ?_⟩⟩
  cases j with
  | zero =>
    simp at hj; subst hj
    refine ⟨encL x, rfl, k34_mkL w x, fun i u hi => ?_⟩
    have := h.cell (j := i) (v := u) (by simpa using hi)
    have e : (⟨X, 0, none⟩ : Addr).add (0 * k34.sz + i) = ⟨X, i, none⟩ := by
      unfold Addr.add
      first | rfl | (simp; omega) | simp
    rw [e]; exact this
  | succ j => simp at hj
theorem kM_of_K {w w0 : World} {base : Nat} (x : S34) (cs : List Value) (h : k34.K w x cs) : k34.M w base (fun _ => False) x cs := by
  rw [k34_open h]; exact k34_mkM _ _ _ _

theorem fill_eval {a : Go.Act} (hsz : a.tmps.size = 148) (u0 u1 u2 u3 u4 u5 u6 : Value) :
    (fillA a [82, 83, 84, 85, 86, 87, 2] [u0, u1, u2, u3, u4, u5, u6]).eval (.tmp 82) = u0 ∧ (fillA a [82, 83, 84, 85, 86, 87, 2] [u0, u1, u2, u3, u4, u5, u6]).eval (.tmp 84) = u2 ∧
    (fillA a [82, 83, 84, 85, 86, 87, 2] [u0, u1, u2, u3, u4, u5, u6]).eval (.tmp 83) = u1 ∧ (fillA a [82, 83, 84, 85, 86, 87, 2] [u0, u1, u2, u3, u4, u5, u6]).eval (.tmp 85) = u3 ∧
    (fillA a [82, 83, 84, 85, 86, 87, 2] [u0, u1, u2, u3, u4, u5, u6]).eval (.tmp 86) = u4 ∧ (fillA a [82, 83, 84, 85, 86, 87, 2] [u0, u1, u2, u3, u4, u5, u6]).eval (.tmp 87) = u5 ∧
    (fillA a [82, 83, 84, 85, 86, 87, 2] [u0, u1, u2, u3, u4, u5, u6]).eval (.tmp 14) = a.eval (.tmp 14) ∧ (fillA a [82, 83, 84, 85, 86, 87, 2] [u0, u1, u2, u3, u4, u5, u6]).eval (.tmp 2) = u6 := by
  simp only [fillA, Go.Act.put, Go.Act.eval]
  refine ⟨?_, ?_, ?_, ?_, ?_, ?_, ?_, ?_⟩ <;> simp [Array.getD, hsz, Array.getElem_setIfInBounds]
set_option maxHeartbeats 4000000 in
theorem fill_put {a : Go.Act} (hsz : a.tmps.size = 148) (u0 u1 u2 u3 u4 u5 u6 v : Value) :
    (fillA a [82, 83, 84, 85, 86, 87, 2] [u0, u1, u2, u3, u4, u5, u6]).put (some 82) v = fillA a [82, 83, 84, 85, 86, 87, 2] [v, u1, u2, u3, u4, u5, u6] ∧
    (fillA a [82, 83, 84, 85, 86, 87, 2] [u0, u1, u2, u3, u4, u5, u6]).put (some 83) v = fillA a [82, 83, 84, 85, 86, 87, 2] [u0, v, u2, u3, u4, u5, u6] ∧
    (fillA a [82, 83, 84, 85, 86, 87, 2] [u0, u1, u2, u3, u4, u5, u6]).put (some 84) v = fillA a [82, 83, 84, 85, 86, 87, 2] [u0, u1, v, u3, u4, u5, u6] ∧
    (fillA a [82, 83, 84, 85, 86, 87, 2] [u0, u1, u2, u3, u4, u5, u6]).put (some 85) v = fillA a [82, 83, 84, 85, 86, 87, 2] [u0, u1, u2, v, u4, u5, u6] ∧
    (fillA a [82, 83, 84, 85, 86, 87, 2] [u0, u1, u2, u3, u4, u5, u6]).put (some 86) v = fillA a [82, 83, 84, 85, 86, 87, 2] [u0, u1, u2, u3, v, u5, u6] ∧
    (fillA a [82, 83, 84, 85, 86, 87, 2] [u0, u1, u2, u3, u4, u5, u6]).put (some 87) v = fillA a [82, 83, 84, 85, 86, 87, 2] [u0, u1, u2, u3, u4, v, u6] ∧
    (fillA a [82, 83, 84, 85, 86, 87, 2] [u0, u1, u2, u3, u4, u5, u6]).put (some 2) v = fillA a [82, 83, 84, 85, 86, 87, 2] [u0, u1, u2, u3, u4, u5, v] := by
  simp only [fillA, Go.Act.put, Go.Act.mk.injEq, and_true]
  refine ⟨?_, ?_, ?_, ?_, ?_, ?_, ?_⟩ <;>
  · apply Array.ext'
    simp only [Array.toList_setIfInBounds]
    apply List.ext_getElem?
    intro i
    simp only [List.getElem?_set, List.length_set, Array.length_toList, hsz]
    repeat' split
    all_goals first | rfl | omega

theorem below_of_grown {w w1 : World} (h : w.grownBy w1 none) : Below w.heap.size w w1 := ⟨h.os, h.tape, h.output, h.size, fun k hk => h.block k hk (by simp)⟩
set_option maxRecDepth 100000 in
set_option maxHeartbeats 4000000 in
theorem told_region {Q : Exit → Go.Act → World → Prop} {a : Go.Act} {wf : World} {A : Option Addr} {c Y : Nat} {U : Nat → Prop} {told : List Listed} {x : Listed} (hsz : a.tmps.size = 148) (h2 : a.eval (.tmp 2) = .slice A told.length c)
    (h14 : a.eval (.tmp 14) = .pointer (some ⟨Y, 0, none⟩)) (hY : Blk wf Y (encL x).toArray 34) (hrow : Kd.F k34 wf U A told.length (sL told)) (hl : told.length ≤ 1000)
    (hK : ∀ u0 u1 u2 u3 u4 u5 v w', Below wf.heap.size wf w' → RowT wf w' v (told ++ [x]) → Q .normal (fillA a [82, 83, 84, 85, 86, 87, 2] [u0, u1, u2, u3, u4, u5, v]) w') : (Code.region 12 (opsOf Try.f19 12) true).wp Try.prog Q a wf := by
  have hu34 := Try.underlying34
  refine region_holes (os := (opsOf Try.f19 12).toList) [82, 83, 84, 85, 86, 87, 2] (DoF wf (.slice A told.length c) told x) (by kernel_rfl) (by decide +kernel) ?_ ?_ ?_
  · exact ⟨(Below.refl _ _).drew, ⟨_, _, _, _, _, _, _, rfl⟩, by simp, by simp, by simp, by simp, by simp, by simp, by simp, fun _ => h2, by simp, by simp, by simp, by simp⟩
  · change StepsL _ 0 (_ :: _ :: _ :: _ :: _ :: _ :: _ :: [])
    refine ⟨?_, ?_, ?_, ?_, ?_, ?_, ?_, trivial⟩
    · intro d vs w' hd _ hF K hK2
      obtain ⟨u0, u1, u2, u3, u4, u5, u6, rfl⟩ := hF.shape
      constructor
      refine Kd.R_lit_step k34 (w0 := wf) wf.heap.size 34 rfl (N := 82) rfl (xs := ([] : List S34)) (inner := []) (ok := fun k => wf.heap.size ≤ k) (okp := fun _ => False) ?_ (Reps.none _ _) (fun _ hk => hk.elim) hF.bel.size hF.bel hF.bel.size (by simp) ?_
      · first | (go_simp; done) | (go_simp; rfl)
      · rintro v1 w1 hR hB hG ⟨b, hb1, hb2⟩
        have hbg := below_of_grown hG
        rw [(fill_put hsz u0 u1 u2 u3 u4 u5 u6 v1).1]
        refine hK2 _ _ ⟨hB, ⟨_, _, _, _, _, _, _, rfl⟩, fun _ _ => hR, fun h => hF.v1 h, fun h h' => row_below (hF.v2 h h') hbg, fun h => hF.v3 h, fun h => ?_, fun h => row_below (hF.v5 h) hbg, fun h => hF.v6 h, fun h => hF.w6 h, fun h => ?_, fun h => hF.c4 h, fun h => hF.c5 h, fun h => hF.c6 h⟩
        · obtain ⟨X, e1, e2, e3, e4⟩ := hF.v4 h
          refine ⟨X, e1, e2.below hbg, fun _ _ => ?_, e4⟩
          show v1.ownBlock ≠ some X
          rw [hb1]
          have := e2.lt
          intro e; injection e with e; omega
        · have := hF.c2 h
          rw [hd] at this
          cases this.1
    · intro d vs w' hd _ hF K hK2
      obtain ⟨u0, u1, u2, u3, u4, u5, u6, rfl⟩ := hF.shape
      have h6 : d 6 = false := by
        cases h : d 6 with
        | false => rfl
        | true => have := (hF.c6 h).2; rw [hd] at this; cases this
      have e6 : u6 = .slice A told.length c := hF.w6 h6
      refine Does.event (w1 := w') (v := .slice A told.length c) rfl ?_ ?_
      · have := (fill_eval hsz u0 u1 u2 u3 u4 u5 u6).2.2.2.2.2.2.2
        have hev : (fillA a [82, 83, 84, 85, 86, 87, 2] [u0, u1, u2, u3, u4, u5, u6]).eval (Operand.tmp (2 : Nat)) = .slice A told.length c := this.trans e6
        clear hF hK2 hK hrow hY h2 h14 e6 h6 this
        generalize (fillA a [82, 83, 84, 85, 86, 87, 2] [u0, u1, u2, u3, u4, u5, u6]).eval = ev at hev ⊢
        go_simp
        first | done | rfl
      · rw [(fill_put hsz u0 u1 u2 u3 u4 u5 u6 _).2.1]
        exact hK2 _ _ ⟨hF.bel, ⟨_, _, _, _, _, _, _, rfl⟩, fun h h' => hF.v0 h h', fun _ => rfl, fun h h' => hF.v2 h h', fun h => hF.v3 h, fun h => hF.v4 h, fun h => hF.v5 h, fun h => hF.v6 h, fun h => hF.w6 h, fun h => ⟨(hF.c2 h).1, rfl⟩, fun h => hF.c4 h, fun h => hF.c5 h, fun h => ⟨(hF.c6 h).1, rfl⟩⟩
    · intro d vs w' hd hdep hF K hK2
      obtain ⟨u0, u1, u2, u3, u4, u5, u6, rfl⟩ := hF.shape
      have d0 : d 0 = true := hdep ⟨0, .data⟩ (by simp) rfl
      have d1 : d 1 = true := hdep ⟨1, .data⟩ (by simp) rfl
      have e1 : u1 = .slice A told.length c := hF.v1 d1
      have h5 : d 5 = false := by
        cases h : d 5 with
        | false => rfl
        | true => have := (hF.c5 h).1; rw [hd] at this; cases this
      have hfe := fill_eval hsz u0 u1 u2 u3 u4 u5 u6
      constructor
      refine Kd.R_append_rows_step k34 (Rr := k34.K w') (w0 := wf) wf.heap.size rfl (.tmp 82) (.tmp 83) 26 34 (aggL listed0) 48 rfl Try.underlying26 info34 rfl (by decide) (by decide) u0 ([] : List S34) (sL told) A told.length c (fun k => wf.heap.size ≤ k) (fun _ => False) hfe.1 (hfe.2.2.1.trans e1) (hF.v0 d0 hd)
        (Kd.F_now (Kd.F_below hrow hF.bel)) (fun x cs h => kM_of_K (w0 := wf) x cs h) (fun _ h => h.elim) (fun k hk => Nat.le_trans hF.bel.size hk) hF.bel hF.bel.size (by simp; omega) ?_
      intro v1 w1 hR hB hG hat
      rw [(fill_put hsz u0 u1 u2 u3 u4 u5 u6 v1).2.2.1]
      refine hK2 _ _ ⟨hB, ⟨_, _, _, _, _, _, _, rfl⟩, (fun _ h => by cases h), fun h => hF.v1 h, fun _ _ => hR, fun h => hF.v3 h, fun h => ?_, fun h => ?_, fun h => hF.v6 h, fun h => hF.w6 h, fun h => ⟨d0, d1⟩, fun h => hF.c4 h, fun h => ⟨rfl, (hF.c5 h).2⟩, fun h => hF.c6 h⟩
      · obtain ⟨X, f1, f2, f3, f4⟩ := hF.v4 h
        have hne : u0.ownBlock ≠ some X := f3 d0 hd
        refine ⟨X, f1, (hG.block X f2.lt (fun e => hne e.symm)).trans f2, (fun _ h => by cases h), fun _ _ => ?_⟩
        show v1.ownBlock ≠ some X
        rcases hat with e | ⟨b, e, hb⟩
        · rw [e]; exact hne
        · rw [e]; have := f2.lt; intro e'; injection e' with e'; omega
      · have h' : d 5 = true := h
        rw [h5] at h'; cases h'
    · intro d vs w' hd _ hF K hK2
      obtain ⟨u0, u1, u2, u3, u4, u5, u6, rfl⟩ := hF.shape
      have hYw : Blk w' Y (encL x).toArray 34 := hY.below hF.bel
      have y0 : w'.cell? ⟨Y, 0, none⟩ = some (.int .i64 x.r.i) := hYw.cell (j := 0) rfl
      have y1 : w'.cell? ⟨Y, 1, none⟩ = some (.int .i64 x.r.g) := hYw.cell (j := 1) rfl
      have y2 : w'.cell? ⟨Y, 2, none⟩ = some (.int .i64 x.o.time) := hYw.cell (j := 2) rfl
      have y3 : w'.cell? ⟨Y, 3, none⟩ = some (.bool x.o.ins) := hYw.cell (j := 3) rfl
      have y4 : w'.cell? ⟨Y, 4, none⟩ = some (.int .i64 x.o.key) := hYw.cell (j := 4) rfl
      have y5 : w'.cell? ⟨Y, 5, none⟩ = some (.int .i64 x.o.id) := hYw.cell (j := 5) rfl
      have hfe := (fill_eval hsz u0 u1 u2 u3 u4 u5 u6).2.2.2.2.2.2.1
      refine Does.event (w1 := w') (v := aggL x) rfl ?_ ?_
      · have hev : (fillA a [82, 83, 84, 85, 86, 87, 2] [u0, u1, u2, u3, u4, u5, u6]).eval (Operand.tmp (14 : Nat)) = .pointer (some ⟨Y, 0, none⟩) := hfe.trans h14
        clear hF hK2 hK hrow hY hYw h2 h14 hfe
        generalize (fillA a [82, 83, 84, 85, 86, 87, 2] [u0, u1, u2, u3, u4, u5, u6]).eval = ev at hev ⊢
        clear hsz
        unfold aggL aggListed
        go_simp
        first | done | rfl
      · rw [(fill_put hsz u0 u1 u2 u3 u4 u5 u6 _).2.2.2.1]
        exact hK2 _ _ ⟨hF.bel, ⟨_, _, _, _, _, _, _, rfl⟩, fun h h' => hF.v0 h h', fun h => hF.v1 h, fun h h' => hF.v2 h h', fun _ => rfl, fun h => hF.v4 h, fun h => hF.v5 h, fun h => hF.v6 h, fun h => hF.w6 h, fun h => hF.c2 h, fun h => rfl, fun h => hF.c5 h, fun h => hF.c6 h⟩
    · intro d vs w' hd hdep hF K hK2
      obtain ⟨u0, u1, u2, u3, u4, u5, u6, rfl⟩ := hF.shape
      have d3 : d 3 = true := hdep ⟨3, .data⟩ (by simp) rfl
      have e3 : u3 = aggL x := hF.v3 d3
      have h5 : d 5 = false := by
        cases h : d 5 with
        | false => rfl
        | true => have := (hF.c5 h).2; rw [hd] at this; cases this
      have hfe := (fill_eval hsz u0 u1 u2 u3 u4 u5 u6).2.2.2.1
      have hbg : Below w'.heap.size w' (w'.alloc (.cells (encL x).toArray 34)) := (Below.refl _ _).alloc (Nat.le_refl _) _
      refine Does.event (v := .slice (some ⟨w'.heap.size, 0, none⟩) 1 1) (w1 := w'.alloc (.cells (encL x).toArray 34)) rfl ?_ ?_
      · have hev : (fillA a [82, 83, 84, 85, 86, 87, 2] [u0, u1, u2, u3, u4, u5, u6]).eval (Operand.tmp (85 : Nat)) = .agg #[.int .i64 x.r.i, .int .i64 x.r.g, .int .i64 x.o.time, .bool x.o.ins, .int .i64 x.o.key, .int .i64 x.o.id] := hfe.trans e3
        clear hF hK2 hK hrow hY h2 h14 e3 hbg hfe
        generalize (fillA a [82, 83, 84, 85, 86, 87, 2] [u0, u1, u2, u3, u4, u5, u6]).eval = ev at hev ⊢
        clear hsz
        go_simp
        first | done | rfl
      · rw [(fill_put hsz u0 u1 u2 u3 u4 u5 u6 _).2.2.2.2.1]
        refine hK2 _ _ ⟨hF.bel.alloc hF.bel.size _, ⟨_, _, _, _, _, _, _, rfl⟩, fun h h' => row_below (hF.v0 h h') hbg, fun h => hF.v1 h, fun h h' => row_below (hF.v2 h h') hbg, fun h => hF.v3 h, fun _ => ⟨w'.heap.size, rfl, Blk.new _ _ _, fun h h' e => ?_, fun h h' e => ?_⟩, fun h => row_below (hF.v5 h) hbg, fun h => hF.v6 h, fun h => hF.w6 h, fun h => hF.c2 h, fun h => d3, fun h => ⟨(hF.c5 h).1, rfl⟩, fun h => hF.c6 h⟩
        · have := Kd.R_lt (hF.v0 h h') _ e
          omega
        · have := Kd.R_lt (hF.v2 h h') _ e
          omega
    · intro d vs w' hd hdep hF K hK2
      obtain ⟨u0, u1, u2, u3, u4, u5, u6, rfl⟩ := hF.shape
      have d2 : d 2 = true := hdep ⟨2, .data⟩ (by simp) rfl
      have d4 : d 4 = true := hdep ⟨4, .data⟩ (by simp) rfl
      have h6 : d 6 = false := by
        cases h : d 6 with
        | false => rfl
        | true => have := (hF.c6 h).1; rw [hd] at this; cases this
      obtain ⟨X, f1, f2, f3, f4⟩ := hF.v4 d4
      have f1' : u4 = .slice (some ⟨X, 0, none⟩) 1 1 := f1
      have hfe := fill_eval hsz u0 u1 u2 u3 u4 u5 u6
      constructor
      refine Kd.R_append_rows_step k34 (Rr := k34.K w') (w0 := wf) wf.heap.size rfl (.tmp 84) (.tmp 86) 26 34 (aggL listed0) 48 rfl Try.underlying26 info34 rfl (by decide) (by decide) u2 (sL told) [toS x] (some ⟨X, 0, none⟩) 1 1 (fun k => wf.heap.size ≤ k) (fun _ => False) hfe.2.1 (hfe.2.2.2.2.1.trans f1') (hF.v2 d2 hd)
        (one_C f2) (fun x cs h => kM_of_K (w0 := wf) x cs h) (fun _ h => h.elim) (fun k hk => Nat.le_trans hF.bel.size hk) hF.bel hF.bel.size (by simp; omega) ?_
      intro v1 w1 hR hB hG hat
      rw [(fill_put hsz u0 u1 u2 u3 u4 u5 u6 v1).2.2.2.2.2.1]
      have hR' : RowT wf w1 v1 (told ++ [x]) := by
        have e : sL (told ++ [x]) = sL told ++ [toS x] := by unfold sL; rw [List.map_append]; rfl
        unfold RowT
        rw [e]; exact hR
      have hX := (hG.block X f2.lt (fun e => f4 d2 hd e.symm)).trans f2
      refine hK2 _ _ ⟨hB, ⟨_, _, _, _, _, _, _, rfl⟩, fun _ h => ?_, fun h => hF.v1 h, (fun _ h => by cases h), fun h => hF.v3 h, fun h => ⟨X, f1, hX, fun _ h => ?_, (fun _ h => by cases h)⟩, fun _ => hR', fun h => ?_, fun h => hF.w6 h, fun h => hF.c2 h, fun h => hF.c4 h, fun _ => ⟨d2, d4⟩, fun h => ⟨rfl, (hF.c6 h).2⟩⟩
      · have h' : d 2 = false := h
        rw [d2] at h'; cases h'
      · have h' : d 2 = false := h
        rw [d2] at h'; cases h'
      · have h' : d 6 = true := h
        rw [h6] at h'; cases h'
    · intro d vs w' hd hdep hF K hK2
      obtain ⟨u0, u1, u2, u3, u4, u5, u6, rfl⟩ := hF.shape
      have d5 : d 5 = true := hdep ⟨5, .data⟩ (by simp) rfl
      have d1 : d 1 = true := hdep ⟨1, .phase⟩ (by simp) rfl
      have hfe := (fill_eval hsz u0 u1 u2 u3 u4 u5 u6).2.2.2.2.2.1
      refine Does.event (w1 := w') (v := u5) rfl ?_ ?_
      · have hev : (fillA a [82, 83, 84, 85, 86, 87, 2] [u0, u1, u2, u3, u4, u5, u6]).eval (Operand.tmp (87 : Nat)) = u5 := hfe
        clear hF hK2 hK hrow hY h2 h14 hfe
        generalize (fillA a [82, 83, 84, 85, 86, 87, 2] [u0, u1, u2, u3, u4, u5, u6]).eval = ev at hev ⊢
        go_simp
        first | done | rfl
      · rw [(fill_put hsz u0 u1 u2 u3 u4 u5 u6 _).2.2.2.2.2.2]
        exact hK2 _ _ ⟨hF.bel, ⟨_, _, _, _, _, _, _, rfl⟩, fun h h' => hF.v0 h h', fun h => hF.v1 h, fun h h' => hF.v2 h h', fun h => hF.v3 h, fun h => hF.v4 h, fun h => hF.v5 h, fun _ => rfl, (fun h => by cases h), fun h => hF.c2 h, fun h => hF.c4 h, fun h => hF.c5 h, fun _ => ⟨d5, d1⟩⟩
  · intro d vs w' hall hF
    obtain ⟨u0, u1, u2, u3, u4, u5, u6, rfl⟩ := hF.shape
    have hlen : (opsOf Try.f19 12).toList.length = 7 := by kernel_rfl
    have e6 : u6 = u5 := hF.v6 (hall 6 (by rw [hlen]; decide))
    have h5 := hF.v5 (hall 5 (by rw [hlen]; decide))
    exact hK u0 u1 u2 u3 u4 u5 u6 w' hF.bel (by rw [e6]; exact h5)
theorem told_row {w w' : World} {v : Value} {l : List Listed} (h : RowT w w' v l) : ∃ A' c', v = .slice A' l.length c' ∧ l.length ≤ c' ∧ LRow w' (fun k => w.heap.size ≤ k ∧ k < w'.heap.size) A' l := made_row (Kd.R_mono h (fun _ _ => trivial))
theorem Duo.turn {N m : Nat} {w w7 : World} {O S U U' : Nat → Prop} {B D : Nat} {t : Tab} {r : RTab} {A A7 : Option Addr} {c c7 : Nat} {told l : List Listed} (h : Duo N m w O S U B D t r A c told) (hb : Below w.heap.size w w7) (hr : Kd.F k34 w7 U' A7 l.length (sL l)) (hc : l.length ≤ c7)
    (hU : ∀ k, U' k → w.heap.size ≤ k ∧ k < w7.heap.size) (hl : l.length ≤ m) (hf : ∀ y ∈ l, In64O y.o) : Duo N m w7 O S U' B D t r A7 c7 l := by
  have hD : D < w.heap.size := h.ref.lt
  have z := hb.size
  exact ⟨h.tab.below hb, h.ref.below hb, h.rel, hr, hc, fun k hk => ⟨(h.o k hk).1, by have := (h.o k hk).2.1; omega, (h.o k hk).2.2.1, (h.o k hk).2.2.2.1, fun hu => by have := (h.o k hk).2.1; have := (hU k hu).1; omega⟩,
    fun k hk => ⟨(hU k hk).2, by have := (hU k hk).1; omega⟩, h.d, Nat.le_trans h.n z, h.few, h.ser, hl, hf⟩
end Go.Proofs.Ytccfjjaljckinaa.Tag
/- One act on both tables: k1. No conditions. -/
namespace Go.Proofs.Ytccfjjaljckinaa.Tag
open Go.RowKit Go.Lib Go.Shelf Go.Proofs.Ytccfjjaljckinaa.Mem Go.Proofs.Ytccfjjaljckinaa.IMap Go.Proofs.YtccfjjaljckinaaW.PrintWords Go.Proofs.YtccfjjaljckinaaW.PrintLast Go.Proofs.YtccfjjaljckinaaW.PrintMore Go.Proofs.Ytccfjjaljckinaa.PTagActs
set_option linter.unusedVariables false
set_option maxRecDepth 100000 in
set_option maxHeartbeats 8000000 in
theorem do_1a {N m : Nat} {w : World} {O S U : Nat → Prop} {B D : Nat} {t : Tab} {r : RTab} {A : Option Addr} {c : Nat} {told : List Listed} (h : Duo N m w O S U B D t r A c told) {kind place xi xg xt xk xd : Int} {xn : Bool} (hk : restI kind 4 = 1) (hx : In64O ⟨xt, xn, xk, xd⟩) (hm : m ≤ 1000) :
    Calls Try.prog 19 #[.pointer (some ⟨B, 0, none⟩), .pointer (some ⟨D, 0, none⟩), .slice A told.length c, .agg #[.int .i64 kind, .int .i64 place, .bool false, .int .i64 xi, .int .i64 xg, .int .i64 xt, .bool xn, .int .i64 xk, .int .i64 xd]] w fun e w' => ∃ O' S' U' r' A' c', e = .returned (.tuple #[.slice A' (doT t told kind ⟨⟨xi, xg⟩, ⟨xt, xn, xk, xd⟩⟩).2.length c', .bool true]) ∧
      Duo N (m + 1) w' O' S' U' B D (doT t told kind ⟨⟨xi, xg⟩, ⟨xt, xn, xk, xd⟩⟩).1 r' A' c' (doT t told kind ⟨⟨xi, xg⟩, ⟨xt, xn, xk, xd⟩⟩).2 ∧ Below N w w' := by
  have HSt0 := Lib.hid h
  have HK := Lib.hid hk
  have HM := Lib.hid hm
  have hlen := h.len
  have HOw : Hid (∀ k, O k → k < w.heap.size) := Lib.hid (fun k hk => (h.o k hk).2.1)
  have HDl : Hid (D < w.heap.size) := Lib.hid h.ref.lt
  have HFew := Lib.hid h.few
  have HSer := Lib.hid h.ser
  have HX0 := Lib.hid hx
  have hu36 := Try.underlying36
  have hu34 := Try.underlying34
  have hu32 := Try.underlying32
  have hu30 := Try.underlying30
  have hu28 := Try.underlying28
  have HFx := HX0
  clear h hk hx
  go_enter Try.func19, Try.ntmps19
  go_wp2_with fail
  refine gw (fun wb hwb => ?_)
  have HBw : Hid (Below w.heap.size w wb) := Lib.hid (by rw [← hwb]; exact ((Below.refl _ _).alloc (Nat.le_refl _) _).alloc (by simp) _)
  have HX : Hid (Blk wb (w.heap.size + 1) #[.int .i64 xi, .int .i64 xg, .int .i64 xt, .bool xn, .int .i64 xk, .int .i64 xd] 34) := Lib.hid (by rw [← hwb]; exact Blk.at_ (by simp) _ _)
  clear hwb
  refine (rest kind 4 (by decide) _).mono ?_
  rintro e wc0 ⟨rfl, q4, rfl⟩
  rw [HK.out]
  have HBc : Hid (Below w.heap.size w (wb.drewN q4)) := Lib.hid (bdn HBw.out q4)
  have HXc := Lib.hid (HX.out.drewN q4)
  generalize wb.drewN q4 = wc at *
  clear HBw HX
  have HSt := Lib.hid (HSt0.out.below HBc.out)
  have zc := HXc.out.lt
  have y0 := HXc.out.cell (j := 0) rfl
  have y1 := HXc.out.cell (j := 1) rfl
  have y2 := HXc.out.cell (j := 2) rfl
  have y3 := HXc.out.cell (j := 3) rfl
  have y4 := HXc.out.cell (j := 4) rfl
  have y5 := HXc.out.cell (j := 5) rfl
  go_wp2_with fail
  refine (dropAt HSt.out.tab ⟨xi, xg⟩).mono ?_
  rintro e w4 ⟨rfl, ht4, hc4⟩
  obtain ⟨e1, e2, hrel'⟩ := HSt.out.rel.drop ⟨xi, xg⟩
  obtain ⟨gr1, gr2, gr3⟩ := drop_grows t ⟨xi, xg⟩
  have HXd := Lib.hid (HXc.out.keep hc4 (fun ho => by have := HOw.out _ ho; omega))
  have HT4 := Lib.hid ht4
  have HC4 := Lib.hid hc4
  have HE1 := Lib.hid e1
  have HE2 := Lib.hid e2
  have HRel := Lib.hid hrel'
  have HG2 := Lib.hid gr2
  have HG3 := Lib.hid gr3
  have z4 := hc4.size
  clear ht4 hc4 e1 e2 hrel' gr1 gr2 gr3 HXc y0 y1 y2 y3 y4 y5
  generalize hop : (dropR t ⟨xi, xg⟩).1 = op at *
  have Hop := Lib.hid hop
  clear hop
  obtain ⟨ot, oi, ok, od⟩ := op
  generalize hob : (dropR t ⟨xi, xg⟩).2.1 = okb at *
  have Hob := Lib.hid hob
  clear hob
  simp only [aggOp]
  have zx := HXd.out.lt
  have zxn : w.heap.size + 1 ≠ w4.heap.size := by omega
  have y0 := HXd.out.cell (j := 0) rfl
  have y1 := HXd.out.cell (j := 1) rfl
  have y2 := HXd.out.cell (j := 2) rfl
  have y3 := HXd.out.cell (j := 3) rfl
  have y4 := HXd.out.cell (j := 4) rfl
  have y5 := HXd.out.cell (j := 5) rfl
  go_wp2_with fail
  refine gw (fun wd hwd => ?_)
  have HBd : Hid (Below w4.heap.size w4 wd) := Lib.hid (by rw [← hwd]; exact (Below.refl _ _).alloc (Nat.le_refl _) _)
  have HGd : Hid (Blk wd w4.heap.size #[.int .i64 ot, .bool oi, .int .i64 ok, .int .i64 od] 32) := Lib.hid (by rw [← hwd]; exact Blk.new _ _ _)
  have HXe := Lib.hid (HXd.out.below HBd.out)
  clear hwd HXd y0 y1 y2 y3 y4 y5
  have HRf := Lib.hid ((HSt.out.refKeep HC4.out).below HBd.out)
  have hfw := HSt.out.tab.good.few
  have hrl := HSt.out.rel.len
  have hlv := liveN_le t.slots
  refine (rdropAt HRf.out (by omega) ⟨xi, xg⟩).mono ?_
  rintro e w5 ⟨rfl, ⟨S', hr5, hS5⟩, hc5⟩
  rw [HE1.out, HE2.out]
  have HC5 := Lib.hid hc5
  have HR5 := Lib.hid hr5
  have HS5 := Lib.hid hS5
  have HGe := Lib.hid (HGd.out.keep hc5 (by have := HDl.out; have := HBc.out.size; omega))
  have z5 := hc5.size
  have zg := HGd.out.lt
  clear hc5 hr5 hS5 HGd HRf hfw hrl hlv
  simp only [aggOp]
  go_wp2_with fail
  refine gwP (fun wf hwf => ?_)
  have HBf : Hid (Below w5.heap.size w5 wf) := Lib.hid (by rw [← hwf]; exact (Below.refl _ _).alloc (Nat.le_refl _) _)
  have HHf : Hid (Blk wf w5.heap.size #[.int .i64 ot, .bool oi, .int .i64 ok, .int .i64 od] 32) := Lib.hid (by rw [← hwf]; exact Blk.new _ _ _)
  have HGf := Lib.hid (HGe.out.below HBf.out)
  clear hwf HGe
  have g0 := HGf.out.cell (j := 0) rfl
  have g1 := HGf.out.cell (j := 1) rfl
  have g2 := HGf.out.cell (j := 2) rfl
  have g3 := HGf.out.cell (j := 3) rfl
  have h0 := HHf.out.cell (j := 0) rfl
  have h1 := HHf.out.cell (j := 1) rfl
  have h2 := HHf.out.cell (j := 2) rfl
  have h3 := HHf.out.cell (j := 3) rfl
  go_quiet (fail)
  go_wp2_with fail
  go_ret2
  obtain ⟨hd, hb⟩ := HSt.out.both (m' := m + 1) (Or.inl rfl) (HC4.out.trans (Chg.of_below (S := fun _ => False) HBd.out) (fun _ _ h => h.elim)) (HT4.out.below HBd.out) HS5.out HC5.out HR5.out HRel.out (by omega) (by rw [HG3.out]; have := HFew.out; omega) (by rw [HG2.out]; have := HSer.out; omega)
  have ed : doT t told kind ⟨⟨xi, xg⟩, ⟨xt, xn, xk, xd⟩⟩ = ((dropR t ⟨xi, xg⟩).2.2, told) := by unfold doT; rw [if_neg (by rw [HK.out]; decide), if_pos HK.out]
  rw [ed]
  exact ⟨_, _, _, _, _, _, rfl, hd.below (by repeat (first | exact HBf.out | refine bdn ?_ _)), (HBc.out.mono HSt0.out.n).trans (hb.trans ((by repeat (first | exact HBf.out | refine bdn ?_ _) : Below w5.heap.size w5 _).mono (by have := HSt.out.n; have := HBd.out.size; omega)))⟩

set_option maxRecDepth 100000 in
set_option maxHeartbeats 8000000 in
theorem do_1b {N m : Nat} {w : World} {O S U : Nat → Prop} {B D : Nat} {t : Tab} {r : RTab} {A : Option Addr} {c : Nat} {told : List Listed} (h : Duo N m w O S U B D t r A c told) {kind place xi xg xt xk xd : Int} {xn : Bool} (hk : restI kind 4 = 1) (h0 : told.length = 0) (hx : In64O ⟨xt, xn, xk, xd⟩) (hm : m ≤ 1000) :
    Calls Try.prog 19 #[.pointer (some ⟨B, 0, none⟩), .pointer (some ⟨D, 0, none⟩), .slice A told.length c, .agg #[.int .i64 kind, .int .i64 place, .bool true, .int .i64 xi, .int .i64 xg, .int .i64 xt, .bool xn, .int .i64 xk, .int .i64 xd]] w fun e w' => ∃ O' S' U' r' A' c', e = .returned (.tuple #[.slice A' (doT t told kind ⟨⟨xi, xg⟩, ⟨xt, xn, xk, xd⟩⟩).2.length c', .bool true]) ∧
      Duo N (m + 1) w' O' S' U' B D (doT t told kind ⟨⟨xi, xg⟩, ⟨xt, xn, xk, xd⟩⟩).1 r' A' c' (doT t told kind ⟨⟨xi, xg⟩, ⟨xt, xn, xk, xd⟩⟩).2 ∧ Below N w w' := by
  have HSt0 := Lib.hid h
  have HK := Lib.hid hk
  have HM := Lib.hid hm
  have hlen := h.len
  have HOw : Hid (∀ k, O k → k < w.heap.size) := Lib.hid (fun k hk => (h.o k hk).2.1)
  have HDl : Hid (D < w.heap.size) := Lib.hid h.ref.lt
  have HFew := Lib.hid h.few
  have HSer := Lib.hid h.ser
  have HX0 := Lib.hid hx
  have hu36 := Try.underlying36
  have hu34 := Try.underlying34
  have hu32 := Try.underlying32
  have hu30 := Try.underlying30
  have hu28 := Try.underlying28
  have HFx := HX0
  obtain rfl : told = [] := List.length_eq_zero_iff.1 h0
  clear h0
  clear h hk hx
  go_enter Try.func19, Try.ntmps19
  go_wp2_with fail
  refine gw (fun wb hwb => ?_)
  have HBw : Hid (Below w.heap.size w wb) := Lib.hid (by rw [← hwb]; exact ((Below.refl _ _).alloc (Nat.le_refl _) _).alloc (by simp) _)
  have HX : Hid (Blk wb (w.heap.size + 1) #[.int .i64 xi, .int .i64 xg, .int .i64 xt, .bool xn, .int .i64 xk, .int .i64 xd] 34) := Lib.hid (by rw [← hwb]; exact Blk.at_ (by simp) _ _)
  clear hwb
  refine (rest kind 4 (by decide) _).mono ?_
  rintro e wc0 ⟨rfl, q4, rfl⟩
  rw [HK.out]
  have HBc : Hid (Below w.heap.size w (wb.drewN q4)) := Lib.hid (bdn HBw.out q4)
  have HXc := Lib.hid (HX.out.drewN q4)
  generalize wb.drewN q4 = wc at *
  clear HBw HX
  have HSt := Lib.hid (HSt0.out.below HBc.out)
  have zc := HXc.out.lt
  have y0 := HXc.out.cell (j := 0) rfl
  have y1 := HXc.out.cell (j := 1) rfl
  have y2 := HXc.out.cell (j := 2) rfl
  have y3 := HXc.out.cell (j := 3) rfl
  have y4 := HXc.out.cell (j := 4) rfl
  have y5 := HXc.out.cell (j := 5) rfl
  go_wp2_with fail
  refine (dropAt HSt.out.tab ⟨xi, xg⟩).mono ?_
  rintro e w4 ⟨rfl, ht4, hc4⟩
  obtain ⟨e1, e2, hrel'⟩ := HSt.out.rel.drop ⟨xi, xg⟩
  obtain ⟨gr1, gr2, gr3⟩ := drop_grows t ⟨xi, xg⟩
  have HXd := Lib.hid (HXc.out.keep hc4 (fun ho => by have := HOw.out _ ho; omega))
  have HT4 := Lib.hid ht4
  have HC4 := Lib.hid hc4
  have HE1 := Lib.hid e1
  have HE2 := Lib.hid e2
  have HRel := Lib.hid hrel'
  have HG2 := Lib.hid gr2
  have HG3 := Lib.hid gr3
  have z4 := hc4.size
  clear ht4 hc4 e1 e2 hrel' gr1 gr2 gr3 HXc y0 y1 y2 y3 y4 y5
  generalize hop : (dropR t ⟨xi, xg⟩).1 = op at *
  have Hop := Lib.hid hop
  clear hop
  obtain ⟨ot, oi, ok, od⟩ := op
  generalize hob : (dropR t ⟨xi, xg⟩).2.1 = okb at *
  have Hob := Lib.hid hob
  clear hob
  simp only [aggOp]
  have zx := HXd.out.lt
  have zxn : w.heap.size + 1 ≠ w4.heap.size := by omega
  have y0 := HXd.out.cell (j := 0) rfl
  have y1 := HXd.out.cell (j := 1) rfl
  have y2 := HXd.out.cell (j := 2) rfl
  have y3 := HXd.out.cell (j := 3) rfl
  have y4 := HXd.out.cell (j := 4) rfl
  have y5 := HXd.out.cell (j := 5) rfl
  go_wp2_with fail
  refine gw (fun wd hwd => ?_)
  have HBd : Hid (Below w4.heap.size w4 wd) := Lib.hid (by rw [← hwd]; exact (Below.refl _ _).alloc (Nat.le_refl _) _)
  have HGd : Hid (Blk wd w4.heap.size #[.int .i64 ot, .bool oi, .int .i64 ok, .int .i64 od] 32) := Lib.hid (by rw [← hwd]; exact Blk.new _ _ _)
  have HXe := Lib.hid (HXd.out.below HBd.out)
  clear hwd HXd y0 y1 y2 y3 y4 y5
  have HRf := Lib.hid ((HSt.out.refKeep HC4.out).below HBd.out)
  have hfw := HSt.out.tab.good.few
  have hrl := HSt.out.rel.len
  have hlv := liveN_le t.slots
  refine (rdropAt HRf.out (by omega) ⟨xi, xg⟩).mono ?_
  rintro e w5 ⟨rfl, ⟨S', hr5, hS5⟩, hc5⟩
  rw [HE1.out, HE2.out]
  have HC5 := Lib.hid hc5
  have HR5 := Lib.hid hr5
  have HS5 := Lib.hid hS5
  have HGe := Lib.hid (HGd.out.keep hc5 (by have := HDl.out; have := HBc.out.size; omega))
  have z5 := hc5.size
  have zg := HGd.out.lt
  clear hc5 hr5 hS5 HGd HRf hfw hrl hlv
  simp only [aggOp]
  go_wp2_with fail
  refine gwP (fun wf hwf => ?_)
  have HBf : Hid (Below w5.heap.size w5 wf) := Lib.hid (by rw [← hwf]; exact (Below.refl _ _).alloc (Nat.le_refl _) _)
  have HHf : Hid (Blk wf w5.heap.size #[.int .i64 ot, .bool oi, .int .i64 ok, .int .i64 od] 32) := Lib.hid (by rw [← hwf]; exact Blk.new _ _ _)
  have HGf := Lib.hid (HGe.out.below HBf.out)
  clear hwf HGe
  have g0 := HGf.out.cell (j := 0) rfl
  have g1 := HGf.out.cell (j := 1) rfl
  have g2 := HGf.out.cell (j := 2) rfl
  have g3 := HGf.out.cell (j := 3) rfl
  have h0 := HHf.out.cell (j := 0) rfl
  have h1 := HHf.out.cell (j := 1) rfl
  have h2 := HHf.out.cell (j := 2) rfl
  have h3 := HHf.out.cell (j := 3) rfl
  go_quiet (fail)
  go_wp2_with fail
  go_ret2
  obtain ⟨hd, hb⟩ := HSt.out.both (m' := m + 1) (Or.inl rfl) (HC4.out.trans (Chg.of_below (S := fun _ => False) HBd.out) (fun _ _ h => h.elim)) (HT4.out.below HBd.out) HS5.out HC5.out HR5.out HRel.out (by omega) (by rw [HG3.out]; have := HFew.out; omega) (by rw [HG2.out]; have := HSer.out; omega)
  have ed : doT t [] kind ⟨⟨xi, xg⟩, ⟨xt, xn, xk, xd⟩⟩ = ((dropR t ⟨xi, xg⟩).2.2, []) := by unfold doT; rw [if_neg (by rw [HK.out]; decide), if_pos HK.out]
  rw [ed]
  exact ⟨_, _, _, _, _, _, rfl, hd.below (by repeat (first | exact HBf.out | refine bdn ?_ _)), (HBc.out.mono HSt0.out.n).trans (hb.trans ((by repeat (first | exact HBf.out | refine bdn ?_ _) : Below w5.heap.size w5 _).mono (by have := HSt.out.n; have := HBd.out.size; omega)))⟩

set_option maxRecDepth 100000 in
set_option maxHeartbeats 8000000 in
theorem do_1c {N m : Nat} {w : World} {O S U : Nat → Prop} {B D : Nat} {t : Tab} {r : RTab} {A : Option Addr} {c : Nat} {told : List Listed} (h : Duo N m w O S U B D t r A c told) {kind place xi xg xt xk xd : Int} {xn : Bool} (hk : restI kind 4 = 1) {ix : Nat} {yi yg yt yk yd : Int} {yn : Bool} (hri : restI place told.length = ix) (hy : told[ix]? = some ⟨⟨yi, yg⟩, ⟨yt, yn, yk, yd⟩⟩) (hx : In64O ⟨xt, xn, xk, xd⟩) (hm : m ≤ 1000) :
    Calls Try.prog 19 #[.pointer (some ⟨B, 0, none⟩), .pointer (some ⟨D, 0, none⟩), .slice A told.length c, .agg #[.int .i64 kind, .int .i64 place, .bool true, .int .i64 xi, .int .i64 xg, .int .i64 xt, .bool xn, .int .i64 xk, .int .i64 xd]] w fun e w' => ∃ O' S' U' r' A' c', e = .returned (.tuple #[.slice A' (doT t told kind ⟨⟨yi, yg⟩, ⟨xt, xn, xk, xd⟩⟩).2.length c', .bool true]) ∧
      Duo N (m + 1) w' O' S' U' B D (doT t told kind ⟨⟨yi, yg⟩, ⟨xt, xn, xk, xd⟩⟩).1 r' A' c' (doT t told kind ⟨⟨yi, yg⟩, ⟨xt, xn, xk, xd⟩⟩).2 ∧ Below N w w' := by
  have HSt0 := Lib.hid h
  have HK := Lib.hid hk
  have HM := Lib.hid hm
  have hlen := h.len
  have HOw : Hid (∀ k, O k → k < w.heap.size) := Lib.hid (fun k hk => (h.o k hk).2.1)
  have HDl : Hid (D < w.heap.size) := Lib.hid h.ref.lt
  have HFew := Lib.hid h.few
  have HSer := Lib.hid h.ser
  have HX0 := Lib.hid hx
  have hu36 := Try.underlying36
  have hu34 := Try.underlying34
  have hu32 := Try.underlying32
  have hu30 := Try.underlying30
  have hu28 := Try.underlying28
  have HFx : Hid (In64O ⟨xt, xn, xk, xd⟩) := HX0
  have hixl := (List.getElem?_eq_some_iff.1 hy).1
  clear h hk hx
  have tpos : decide ((told.length : Int) > 0) = true := decide_eq_true (by omega)
  go_enter Try.func19, Try.ntmps19
  go_wp2_with fail
  refine gw (fun wa hwa => ?_)
  have HBa : Hid (Below w.heap.size w wa) := Lib.hid (by rw [← hwa]; exact ((Below.refl _ _).alloc (Nat.le_refl _) _).alloc (by simp) _)
  have HAa : Hid (Blk wa w.heap.size #[.int .i64 kind, .int .i64 place, .bool true, .int .i64 xi, .int .i64 xg, .int .i64 xt, .bool xn, .int .i64 xk, .int .i64 xd] 36) := Lib.hid (by rw [← hwa]; exact (Blk.new _ _ _).alloc _)
  have HXa : Hid (Blk wa (w.heap.size + 1) #[.int .i64 xi, .int .i64 xg, .int .i64 xt, .bool xn, .int .i64 xk, .int .i64 xd] 34) := Lib.hid (by rw [← hwa]; exact Blk.at_ (by simp) _ _)
  clear hwa
  refine (rest place (told.length : Int) (by omega) _).mono ?_
  rintro e w3 ⟨rfl, q3, rfl⟩
  rw [hri]
  have HB3 : Hid (Below w.heap.size w (wa.drewN q3)) := Lib.hid (bdn HBa.out q3)
  have HA3 : Hid (Blk (wa.drewN q3) w.heap.size #[.int .i64 kind, .int .i64 place, .bool true, .int .i64 xi, .int .i64 xg, .int .i64 xt, .bool xn, .int .i64 xk, .int .i64 xd] 36) := Lib.hid (HAa.out.drewN q3)
  have HX3 : Hid (Blk (wa.drewN q3) (w.heap.size + 1) #[.int .i64 xi, .int .i64 xg, .int .i64 xt, .bool xn, .int .i64 xk, .int .i64 xd] 34) := Lib.hid (HXa.out.drewN q3)
  generalize wa.drewN q3 = w3 at *
  clear HBa HAa HXa
  obtain ⟨ad, hA, r0, r1, r2, r3, r4, r5⟩ := row_at (Kd.F_now (HSt0.out.below HB3.out).row) hy
  subst hA
  have hx3 := HX3.out.lt
  have ha3 := HA3.out.lt
  have hne3 : w.heap.size ≠ w3.heap.size := by omega
  have hne4 : w.heap.size + 1 ≠ w3.heap.size := by omega
  have hi30 : (0 : Int) ≤ ix := by omega
  have hi3N : (ix : Int) < told.length := by omega
  have e3 : (ix : Int).toNat = ix := by omega
  have g0 := HA3.out.cell (j := 0) rfl
  have y0 := HX3.out.cell (j := 0) rfl
  have y1 := HX3.out.cell (j := 1) rfl
  have y2 := HX3.out.cell (j := 2) rfl
  have y3 := HX3.out.cell (j := 3) rfl
  have y4 := HX3.out.cell (j := 4) rfl
  have y5 := HX3.out.cell (j := 5) rfl
  have yf0 := HX3.out.free 0
  have yf1 := HX3.out.free 1
  have yf2 := HX3.out.free 2
  have yf3 := HX3.out.free 3
  have yf4 := HX3.out.free 4
  have yf5 := HX3.out.free 5
  go_wp2_with fail
  refine gw (fun wb0 hwb => ?_)
  have HBw0 : Hid (Below w.heap.size w wb0) := Lib.hid (by rw [← hwb]; exact ((HB3.out.setCell (by simp) _).setCell (by simp) _).alloc (by have := HB3.out.size; simp; omega) _)
  have HX0 : Hid (Blk wb0 (w.heap.size + 1) #[.int .i64 yi, .int .i64 yg, .int .i64 xt, .bool xn, .int .i64 xk, .int .i64 xd] 34) := Lib.hid (by rw [← hwb]; exact ((HX3.out.set 0 _).set 1 _).alloc _)
  have HY0 : Hid (Blk wb0 w3.heap.size #[.int .i64 yi, .int .i64 yg, .int .i64 yt, .bool yn, .int .i64 yk, .int .i64 yd] 34) := Lib.hid (by rw [← hwb]; exact Blk.at_ (by simp) _ _)
  have HA0 : Hid (Blk wb0 w.heap.size #[.int .i64 kind, .int .i64 place, .bool true, .int .i64 xi, .int .i64 xg, .int .i64 xt, .bool xn, .int .i64 xk, .int .i64 xd] 36) := Lib.hid (by rw [← hwb]; exact ((HA3.out.far (p := ⟨w.heap.size + 1, 0, none⟩) (by simp) _).far (p := ⟨w.heap.size + 1, 1, none⟩) (by simp) _).alloc _)
  clear hwb HB3 HA3 r0 r1 r2 r3 r4 r5 g0 y0 y1 y2 y3 y4 y5 yf0 yf1 yf2 yf3 yf4 yf5 hi30 hi3N e3
  refine (rest kind 4 (by decide) _).mono ?_
  rintro e w5 ⟨rfl, q5, rfl⟩
  rw [HK.out]
  have HBw1 : Hid (Below w.heap.size w (wb0.drewN q5)) := Lib.hid (bdn HBw0.out q5)
  have HX1 := Lib.hid (HX0.out.drewN q5)
  have HY1 := Lib.hid (HY0.out.drewN q5)
  have HA1 := Lib.hid (HA0.out.drewN q5)
  generalize wb0.drewN q5 = wb1 at *
  clear HBw0 HX0 HY0 HA0
  have g0 := HA1.out.cell (j := 0) rfl
  go_wp2_with fail
  have HBw := HBw1
  have HX := HX1
  clear HBw1 HX1 HY1 HA1 g0
  generalize wb1 = wb at *
  refine (rest kind 4 (by decide) _).mono ?_
  rintro e wc0 ⟨rfl, q4, rfl⟩
  rw [HK.out]
  have HBc : Hid (Below w.heap.size w (wb.drewN q4)) := Lib.hid (bdn HBw.out q4)
  have HXc := Lib.hid (HX.out.drewN q4)
  generalize wb.drewN q4 = wc at *
  clear HBw HX
  have HSt := Lib.hid (HSt0.out.below HBc.out)
  have zc := HXc.out.lt
  have y0 := HXc.out.cell (j := 0) rfl
  have y1 := HXc.out.cell (j := 1) rfl
  have y2 := HXc.out.cell (j := 2) rfl
  have y3 := HXc.out.cell (j := 3) rfl
  have y4 := HXc.out.cell (j := 4) rfl
  have y5 := HXc.out.cell (j := 5) rfl
  go_wp2_with fail
  refine (dropAt HSt.out.tab ⟨yi, yg⟩).mono ?_
  rintro e w4 ⟨rfl, ht4, hc4⟩
  obtain ⟨e1, e2, hrel'⟩ := HSt.out.rel.drop ⟨yi, yg⟩
  obtain ⟨gr1, gr2, gr3⟩ := drop_grows t ⟨yi, yg⟩
  have HXd := Lib.hid (HXc.out.keep hc4 (fun ho => by have := HOw.out _ ho; omega))
  have HT4 := Lib.hid ht4
  have HC4 := Lib.hid hc4
  have HE1 := Lib.hid e1
  have HE2 := Lib.hid e2
  have HRel := Lib.hid hrel'
  have HG2 := Lib.hid gr2
  have HG3 := Lib.hid gr3
  have z4 := hc4.size
  clear ht4 hc4 e1 e2 hrel' gr1 gr2 gr3 HXc y0 y1 y2 y3 y4 y5
  generalize hop : (dropR t ⟨yi, yg⟩).1 = op at *
  have Hop := Lib.hid hop
  clear hop
  obtain ⟨ot, oi, ok, od⟩ := op
  generalize hob : (dropR t ⟨yi, yg⟩).2.1 = okb at *
  have Hob := Lib.hid hob
  clear hob
  simp only [aggOp]
  have zx := HXd.out.lt
  have zxn : w.heap.size + 1 ≠ w4.heap.size := by omega
  have y0 := HXd.out.cell (j := 0) rfl
  have y1 := HXd.out.cell (j := 1) rfl
  have y2 := HXd.out.cell (j := 2) rfl
  have y3 := HXd.out.cell (j := 3) rfl
  have y4 := HXd.out.cell (j := 4) rfl
  have y5 := HXd.out.cell (j := 5) rfl
  go_wp2_with fail
  refine gw (fun wd hwd => ?_)
  have HBd : Hid (Below w4.heap.size w4 wd) := Lib.hid (by rw [← hwd]; exact (Below.refl _ _).alloc (Nat.le_refl _) _)
  have HGd : Hid (Blk wd w4.heap.size #[.int .i64 ot, .bool oi, .int .i64 ok, .int .i64 od] 32) := Lib.hid (by rw [← hwd]; exact Blk.new _ _ _)
  have HXe := Lib.hid (HXd.out.below HBd.out)
  clear hwd HXd y0 y1 y2 y3 y4 y5
  have HRf := Lib.hid ((HSt.out.refKeep HC4.out).below HBd.out)
  have hfw := HSt.out.tab.good.few
  have hrl := HSt.out.rel.len
  have hlv := liveN_le t.slots
  refine (rdropAt HRf.out (by omega) ⟨yi, yg⟩).mono ?_
  rintro e w5 ⟨rfl, ⟨S', hr5, hS5⟩, hc5⟩
  rw [HE1.out, HE2.out]
  have HC5 := Lib.hid hc5
  have HR5 := Lib.hid hr5
  have HS5 := Lib.hid hS5
  have HGe := Lib.hid (HGd.out.keep hc5 (by have := HDl.out; have := HBc.out.size; omega))
  have z5 := hc5.size
  have zg := HGd.out.lt
  clear hc5 hr5 hS5 HGd HRf hfw hrl hlv
  simp only [aggOp]
  go_wp2_with fail
  refine gwP (fun wf hwf => ?_)
  have HBf : Hid (Below w5.heap.size w5 wf) := Lib.hid (by rw [← hwf]; exact (Below.refl _ _).alloc (Nat.le_refl _) _)
  have HHf : Hid (Blk wf w5.heap.size #[.int .i64 ot, .bool oi, .int .i64 ok, .int .i64 od] 32) := Lib.hid (by rw [← hwf]; exact Blk.new _ _ _)
  have HGf := Lib.hid (HGe.out.below HBf.out)
  clear hwf HGe
  have g0 := HGf.out.cell (j := 0) rfl
  have g1 := HGf.out.cell (j := 1) rfl
  have g2 := HGf.out.cell (j := 2) rfl
  have g3 := HGf.out.cell (j := 3) rfl
  have h0 := HHf.out.cell (j := 0) rfl
  have h1 := HHf.out.cell (j := 1) rfl
  have h2 := HHf.out.cell (j := 2) rfl
  have h3 := HHf.out.cell (j := 3) rfl
  go_quiet (fail)
  go_wp2_with fail
  go_ret2
  obtain ⟨hd, hb⟩ := HSt.out.both (m' := m + 1) (Or.inl rfl) (HC4.out.trans (Chg.of_below (S := fun _ => False) HBd.out) (fun _ _ h => h.elim)) (HT4.out.below HBd.out) HS5.out HC5.out HR5.out HRel.out (by omega) (by rw [HG3.out]; have := HFew.out; omega) (by rw [HG2.out]; have := HSer.out; omega)
  have ed : doT t told kind ⟨⟨yi, yg⟩, ⟨xt, xn, xk, xd⟩⟩ = ((dropR t ⟨yi, yg⟩).2.2, told) := by unfold doT; rw [if_neg (by rw [HK.out]; decide), if_pos HK.out]
  rw [ed]
  exact ⟨_, _, _, _, _, _, rfl, hd.below (by repeat (first | exact HBf.out | refine bdn ?_ _)), (HBc.out.mono HSt0.out.n).trans (hb.trans ((by repeat (first | exact HBf.out | refine bdn ?_ _) : Below w5.heap.size w5 _).mono (by have := HSt.out.n; have := HBd.out.size; omega)))⟩
end Go.Proofs.Ytccfjjaljckinaa.Tag
/- One act on both tables: k0e. No conditions. -/
namespace Go.Proofs.Ytccfjjaljckinaa.Tag
open Go.RowKit Go.Lib Go.Shelf Go.Proofs.Ytccfjjaljckinaa.Mem Go.Proofs.Ytccfjjaljckinaa.IMap Go.Proofs.YtccfjjaljckinaaW.PrintWords Go.Proofs.YtccfjjaljckinaaW.PrintLast Go.Proofs.YtccfjjaljckinaaW.PrintMore Go.Proofs.Ytccfjjaljckinaa.PTagActs
set_option linter.unusedVariables false
set_option maxRecDepth 100000 in
set_option maxHeartbeats 8000000 in
theorem do_0ea {N m : Nat} {w : World} {O S U : Nat → Prop} {B D : Nat} {t : Tab} {r : RTab} {A : Option Addr} {c : Nat} {told : List Listed} (h : Duo N m w O S U B D t r A c told) {kind place xi xg xt xk xd : Int} {xn : Bool} (hk : restI kind 4 = 0) (hx : In64O ⟨xt, xn, xk, xd⟩) (hm : m ≤ 1000) (hM : mayE t xt ≠ 0) :
    Calls Try.prog 19 #[.pointer (some ⟨B, 0, none⟩), .pointer (some ⟨D, 0, none⟩), .slice A told.length c, .agg #[.int .i64 kind, .int .i64 place, .bool false, .int .i64 xi, .int .i64 xg, .int .i64 xt, .bool xn, .int .i64 xk, .int .i64 xd]] w fun e w' => ∃ O' S' U' r' A' c', e = .returned (.tuple #[.slice A' (doT t told kind ⟨⟨xi, xg⟩, ⟨xt, xn, xk, xd⟩⟩).2.length c', .bool true]) ∧
      Duo N (m + 1) w' O' S' U' B D (doT t told kind ⟨⟨xi, xg⟩, ⟨xt, xn, xk, xd⟩⟩).1 r' A' c' (doT t told kind ⟨⟨xi, xg⟩, ⟨xt, xn, xk, xd⟩⟩).2 ∧ Below N w w' := by
  have HMy := Lib.hid hM
  clear hM
  have HSt0 := Lib.hid h
  have HK := Lib.hid hk
  have HM := Lib.hid hm
  have hlen := h.len
  have HOw : Hid (∀ k, O k → k < w.heap.size) := Lib.hid (fun k hk => (h.o k hk).2.1)
  have HDl : Hid (D < w.heap.size) := Lib.hid h.ref.lt
  have HFew := Lib.hid h.few
  have HSer := Lib.hid h.ser
  have HX0 := Lib.hid hx
  have hu36 := Try.underlying36
  have hu34 := Try.underlying34
  have hu32 := Try.underlying32
  have hu30 := Try.underlying30
  have hu28 := Try.underlying28
  have HFx := HX0
  clear h hk hx
  go_enter Try.func19, Try.ntmps19
  go_wp2_with fail
  refine gw (fun wb hwb => ?_)
  have HBw : Hid (Below w.heap.size w wb) := Lib.hid (by rw [← hwb]; exact ((Below.refl _ _).alloc (Nat.le_refl _) _).alloc (by simp) _)
  have HX : Hid (Blk wb (w.heap.size + 1) #[.int .i64 xi, .int .i64 xg, .int .i64 xt, .bool xn, .int .i64 xk, .int .i64 xd] 34) := Lib.hid (by rw [← hwb]; exact Blk.at_ (by simp) _ _)
  clear hwb
  refine (rest kind 4 (by decide) _).mono ?_
  rintro e wc0 ⟨rfl, q4, rfl⟩
  rw [HK.out]
  have HBc : Hid (Below w.heap.size w (wb.drewN q4)) := Lib.hid (bdn HBw.out q4)
  have HXc := Lib.hid (HX.out.drewN q4)
  generalize wb.drewN q4 = wc at *
  clear HBw HX
  have HSt := Lib.hid (HSt0.out.below HBc.out)
  have zc := HXc.out.lt
  have y0 := HXc.out.cell (j := 0) rfl
  have y1 := HXc.out.cell (j := 1) rfl
  have y2 := HXc.out.cell (j := 2) rfl
  have y3 := HXc.out.cell (j := 3) rfl
  have y4 := HXc.out.cell (j := 4) rfl
  have y5 := HXc.out.cell (j := 5) rfl
  go_wp2_with fail
  refine (issueAt HSt.out.tab (x := xt) (key := xk) (ins := xn) HFx.out.1 HFx.out.2.1 (by have := HFew.out; have := HM.out; omega) (by have := HSer.out; have := HM.out; omega)).mono ?_
  rintro e w4 ⟨he, ht4, hc4⟩
  have HXd := Lib.hid (HXc.out.keep hc4 (fun ho => by have := HOw.out _ ho; omega))
  have HC4 := Lib.hid hc4
  have z4 := hc4.size
  rw [show issueR t xt xn xk = (listed0, mayE t xt, t) from if_neg HMy.out] at he ht4
  obtain ⟨M, hMe⟩ : ∃ M, mayE t xt = M := ⟨_, rfl⟩
  rw [hMe] at he
  change e = .returned (.tuple #[.agg #[.int .i64 0, .int .i64 0, .int .i64 0, .bool false, .int .i64 0, .int .i64 0], .int .i64 M]) at he
  subst he
  have t1 : (M == 0) = false := beq_eq_false_iff_ne.2 (by rw [← hMe]; exact HMy.out)
  have HMe := Lib.hid hMe
  have HT4 := Lib.hid ht4
  clear ht4 hc4 hMe HXc y0 y1 y2 y3 y4 y5
  have zx := HXd.out.lt
  have zxn : w.heap.size + 1 ≠ w4.heap.size := by omega
  have y0 := HXd.out.cell (j := 0) rfl
  have y1 := HXd.out.cell (j := 1) rfl
  have y2 := HXd.out.cell (j := 2) rfl
  have y3 := HXd.out.cell (j := 3) rfl
  have y4 := HXd.out.cell (j := 4) rfl
  have y5 := HXd.out.cell (j := 5) rfl
  go_wp2_with fail
  refine gw (fun wd hwd => ?_)
  have HBd : Hid (Below w4.heap.size w4 wd) := Lib.hid (by rw [← hwd]; exact (Below.refl _ _).alloc (Nat.le_refl _) _)
  have HGd : Hid (Blk wd w4.heap.size #[.int .i64 0, .int .i64 0, .int .i64 0, .bool false, .int .i64 0, .int .i64 0] 34) := Lib.hid (by rw [← hwd]; exact Blk.new _ _ _)
  clear hwd HXd y0 y1 y2 y3 y4 y5 zx zxn
  have HRf := Lib.hid ((HSt.out.refKeep HC4.out).below HBd.out)
  have hfw := HSt.out.tab.good.few
  have hrl := HSt.out.rel.len
  have hlv := liveN_le t.slots
  refine (rissue_err HRf.out (by omega) (x := xt) (key := xk) (ins := xn) (M := M) (by rw [HSt.out.rel.may]; exact HMe.out) (by rw [← HMe.out]; exact HMy.out)).mono ?_
  rintro e w5 ⟨rfl, hb5⟩
  have HB5 := Lib.hid hb5
  have HGe := Lib.hid (HGd.out.below hb5)
  have z5 := hb5.size
  have zg := HGd.out.lt
  clear hb5 HGd hfw hrl hlv
  simp only [aggL, aggListed, listed0, op0]
  go_wp2_with fail
  refine gwP (fun wf hwf => ?_)
  have HBf : Hid (Below w5.heap.size w5 wf) := Lib.hid (by rw [← hwf]; exact (Below.refl _ _).alloc (Nat.le_refl _) _)
  have HHf : Hid (Blk wf w5.heap.size #[.int .i64 0, .int .i64 0, .int .i64 0, .bool false, .int .i64 0, .int .i64 0] 34) := Lib.hid (by rw [← hwf]; exact Blk.new _ _ _)
  have HGf := Lib.hid (HGe.out.below HBf.out)
  clear hwf HGe
  have g0 := HGf.out.cell (j := 0) rfl
  have g1 := HGf.out.cell (j := 1) rfl
  have g2 := HGf.out.cell (j := 2) rfl
  have g3 := HGf.out.cell (j := 3) rfl
  have g4 := HGf.out.cell (j := 4) rfl
  have g5 := HGf.out.cell (j := 5) rfl
  have h0 := HHf.out.cell (j := 0) rfl
  have h1 := HHf.out.cell (j := 1) rfl
  have h2 := HHf.out.cell (j := 2) rfl
  have h3 := HHf.out.cell (j := 3) rfl
  have h4 := HHf.out.cell (j := 4) rfl
  have h5 := HHf.out.cell (j := 5) rfl
  go_quiet (fail)
  go_wp2_with fail
  go_ret2
  obtain ⟨hd, hb⟩ := HSt.out.both (m' := m + 1) (O' := More O wc wd) (S' := S) (w2 := w5) (Or.inr rfl) (HC4.out.trans (Chg.of_below (S := fun _ => False) HBd.out) (fun _ _ h => h.elim)) ((HT4.out.wider (fun k hk => hk.imp id (fun h => ⟨h.1, Nat.lt_of_lt_of_le h.2 HBd.out.size⟩))).below HBd.out) (fun k hk => Or.inl hk) (Chg.of_below HB5.out) (HRf.out.below HB5.out) HSt.out.rel (by omega) (by have := HFew.out; omega) (by have := HSer.out; omega)
  have ed : doT t told kind ⟨⟨xi, xg⟩, ⟨xt, xn, xk, xd⟩⟩ = (t, told) := by unfold doT; rw [if_pos HK.out, if_neg HMy.out]
  rw [ed]
  exact ⟨_, _, _, _, _, _, rfl, hd.below (by repeat (first | exact HBf.out | refine bdn ?_ _)), (HBc.out.mono HSt0.out.n).trans (hb.trans ((by repeat (first | exact HBf.out | refine bdn ?_ _) : Below w5.heap.size w5 _).mono (by have := HSt.out.n; have := HBd.out.size; omega)))⟩

set_option maxRecDepth 100000 in
set_option maxHeartbeats 8000000 in
theorem do_0eb {N m : Nat} {w : World} {O S U : Nat → Prop} {B D : Nat} {t : Tab} {r : RTab} {A : Option Addr} {c : Nat} {told : List Listed} (h : Duo N m w O S U B D t r A c told) {kind place xi xg xt xk xd : Int} {xn : Bool} (hk : restI kind 4 = 0) (h0 : told.length = 0) (hx : In64O ⟨xt, xn, xk, xd⟩) (hm : m ≤ 1000) (hM : mayE t xt ≠ 0) :
    Calls Try.prog 19 #[.pointer (some ⟨B, 0, none⟩), .pointer (some ⟨D, 0, none⟩), .slice A told.length c, .agg #[.int .i64 kind, .int .i64 place, .bool true, .int .i64 xi, .int .i64 xg, .int .i64 xt, .bool xn, .int .i64 xk, .int .i64 xd]] w fun e w' => ∃ O' S' U' r' A' c', e = .returned (.tuple #[.slice A' (doT t told kind ⟨⟨xi, xg⟩, ⟨xt, xn, xk, xd⟩⟩).2.length c', .bool true]) ∧
      Duo N (m + 1) w' O' S' U' B D (doT t told kind ⟨⟨xi, xg⟩, ⟨xt, xn, xk, xd⟩⟩).1 r' A' c' (doT t told kind ⟨⟨xi, xg⟩, ⟨xt, xn, xk, xd⟩⟩).2 ∧ Below N w w' := by
  have HMy := Lib.hid hM
  clear hM
  have HSt0 := Lib.hid h
  have HK := Lib.hid hk
  have HM := Lib.hid hm
  have hlen := h.len
  have HOw : Hid (∀ k, O k → k < w.heap.size) := Lib.hid (fun k hk => (h.o k hk).2.1)
  have HDl : Hid (D < w.heap.size) := Lib.hid h.ref.lt
  have HFew := Lib.hid h.few
  have HSer := Lib.hid h.ser
  have HX0 := Lib.hid hx
  have hu36 := Try.underlying36
  have hu34 := Try.underlying34
  have hu32 := Try.underlying32
  have hu30 := Try.underlying30
  have hu28 := Try.underlying28
  have HFx := HX0
  obtain rfl : told = [] := List.length_eq_zero_iff.1 h0
  clear h0
  clear h hk hx
  go_enter Try.func19, Try.ntmps19
  go_wp2_with fail
  refine gw (fun wb hwb => ?_)
  have HBw : Hid (Below w.heap.size w wb) := Lib.hid (by rw [← hwb]; exact ((Below.refl _ _).alloc (Nat.le_refl _) _).alloc (by simp) _)
  have HX : Hid (Blk wb (w.heap.size + 1) #[.int .i64 xi, .int .i64 xg, .int .i64 xt, .bool xn, .int .i64 xk, .int .i64 xd] 34) := Lib.hid (by rw [← hwb]; exact Blk.at_ (by simp) _ _)
  clear hwb
  refine (rest kind 4 (by decide) _).mono ?_
  rintro e wc0 ⟨rfl, q4, rfl⟩
  rw [HK.out]
  have HBc : Hid (Below w.heap.size w (wb.drewN q4)) := Lib.hid (bdn HBw.out q4)
  have HXc := Lib.hid (HX.out.drewN q4)
  generalize wb.drewN q4 = wc at *
  clear HBw HX
  have HSt := Lib.hid (HSt0.out.below HBc.out)
  have zc := HXc.out.lt
  have y0 := HXc.out.cell (j := 0) rfl
  have y1 := HXc.out.cell (j := 1) rfl
  have y2 := HXc.out.cell (j := 2) rfl
  have y3 := HXc.out.cell (j := 3) rfl
  have y4 := HXc.out.cell (j := 4) rfl
  have y5 := HXc.out.cell (j := 5) rfl
  go_wp2_with fail
  refine (issueAt HSt.out.tab (x := xt) (key := xk) (ins := xn) HFx.out.1 HFx.out.2.1 (by have := HFew.out; have := HM.out; omega) (by have := HSer.out; have := HM.out; omega)).mono ?_
  rintro e w4 ⟨he, ht4, hc4⟩
  have HXd := Lib.hid (HXc.out.keep hc4 (fun ho => by have := HOw.out _ ho; omega))
  have HC4 := Lib.hid hc4
  have z4 := hc4.size
  rw [show issueR t xt xn xk = (listed0, mayE t xt, t) from if_neg HMy.out] at he ht4
  obtain ⟨M, hMe⟩ : ∃ M, mayE t xt = M := ⟨_, rfl⟩
  rw [hMe] at he
  change e = .returned (.tuple #[.agg #[.int .i64 0, .int .i64 0, .int .i64 0, .bool false, .int .i64 0, .int .i64 0], .int .i64 M]) at he
  subst he
  have t1 : (M == 0) = false := beq_eq_false_iff_ne.2 (by rw [← hMe]; exact HMy.out)
  have HMe := Lib.hid hMe
  have HT4 := Lib.hid ht4
  clear ht4 hc4 hMe HXc y0 y1 y2 y3 y4 y5
  have zx := HXd.out.lt
  have zxn : w.heap.size + 1 ≠ w4.heap.size := by omega
  have y0 := HXd.out.cell (j := 0) rfl
  have y1 := HXd.out.cell (j := 1) rfl
  have y2 := HXd.out.cell (j := 2) rfl
  have y3 := HXd.out.cell (j := 3) rfl
  have y4 := HXd.out.cell (j := 4) rfl
  have y5 := HXd.out.cell (j := 5) rfl
  go_wp2_with fail
  refine gw (fun wd hwd => ?_)
  have HBd : Hid (Below w4.heap.size w4 wd) := Lib.hid (by rw [← hwd]; exact (Below.refl _ _).alloc (Nat.le_refl _) _)
  have HGd : Hid (Blk wd w4.heap.size #[.int .i64 0, .int .i64 0, .int .i64 0, .bool false, .int .i64 0, .int .i64 0] 34) := Lib.hid (by rw [← hwd]; exact Blk.new _ _ _)
  clear hwd HXd y0 y1 y2 y3 y4 y5 zx zxn
  have HRf := Lib.hid ((HSt.out.refKeep HC4.out).below HBd.out)
  have hfw := HSt.out.tab.good.few
  have hrl := HSt.out.rel.len
  have hlv := liveN_le t.slots
  refine (rissue_err HRf.out (by omega) (x := xt) (key := xk) (ins := xn) (M := M) (by rw [HSt.out.rel.may]; exact HMe.out) (by rw [← HMe.out]; exact HMy.out)).mono ?_
  rintro e w5 ⟨rfl, hb5⟩
  have HB5 := Lib.hid hb5
  have HGe := Lib.hid (HGd.out.below hb5)
  have z5 := hb5.size
  have zg := HGd.out.lt
  clear hb5 HGd hfw hrl hlv
  simp only [aggL, aggListed, listed0, op0]
  go_wp2_with fail
  refine gwP (fun wf hwf => ?_)
  have HBf : Hid (Below w5.heap.size w5 wf) := Lib.hid (by rw [← hwf]; exact (Below.refl _ _).alloc (Nat.le_refl _) _)
  have HHf : Hid (Blk wf w5.heap.size #[.int .i64 0, .int .i64 0, .int .i64 0, .bool false, .int .i64 0, .int .i64 0] 34) := Lib.hid (by rw [← hwf]; exact Blk.new _ _ _)
  have HGf := Lib.hid (HGe.out.below HBf.out)
  clear hwf HGe
  have g0 := HGf.out.cell (j := 0) rfl
  have g1 := HGf.out.cell (j := 1) rfl
  have g2 := HGf.out.cell (j := 2) rfl
  have g3 := HGf.out.cell (j := 3) rfl
  have g4 := HGf.out.cell (j := 4) rfl
  have g5 := HGf.out.cell (j := 5) rfl
  have h0 := HHf.out.cell (j := 0) rfl
  have h1 := HHf.out.cell (j := 1) rfl
  have h2 := HHf.out.cell (j := 2) rfl
  have h3 := HHf.out.cell (j := 3) rfl
  have h4 := HHf.out.cell (j := 4) rfl
  have h5 := HHf.out.cell (j := 5) rfl
  go_quiet (fail)
  go_wp2_with fail
  go_ret2
  obtain ⟨hd, hb⟩ := HSt.out.both (m' := m + 1) (O' := More O wc wd) (S' := S) (w2 := w5) (Or.inr rfl) (HC4.out.trans (Chg.of_below (S := fun _ => False) HBd.out) (fun _ _ h => h.elim)) ((HT4.out.wider (fun k hk => hk.imp id (fun h => ⟨h.1, Nat.lt_of_lt_of_le h.2 HBd.out.size⟩))).below HBd.out) (fun k hk => Or.inl hk) (Chg.of_below HB5.out) (HRf.out.below HB5.out) HSt.out.rel (by omega) (by have := HFew.out; omega) (by have := HSer.out; omega)
  have ed : doT t [] kind ⟨⟨xi, xg⟩, ⟨xt, xn, xk, xd⟩⟩ = (t, []) := by unfold doT; rw [if_pos HK.out, if_neg HMy.out]
  rw [ed]
  exact ⟨_, _, _, _, _, _, rfl, hd.below (by repeat (first | exact HBf.out | refine bdn ?_ _)), (HBc.out.mono HSt0.out.n).trans (hb.trans ((by repeat (first | exact HBf.out | refine bdn ?_ _) : Below w5.heap.size w5 _).mono (by have := HSt.out.n; have := HBd.out.size; omega)))⟩

set_option maxRecDepth 100000 in
set_option maxHeartbeats 8000000 in
theorem do_0ec {N m : Nat} {w : World} {O S U : Nat → Prop} {B D : Nat} {t : Tab} {r : RTab} {A : Option Addr} {c : Nat} {told : List Listed} (h : Duo N m w O S U B D t r A c told) {kind place xi xg xt xk xd : Int} {xn : Bool} (hk : restI kind 4 = 0) {ix : Nat} {yi yg yt yk yd : Int} {yn : Bool} (hri : restI place told.length = ix) (hy : told[ix]? = some ⟨⟨yi, yg⟩, ⟨yt, yn, yk, yd⟩⟩) (hx : In64O ⟨xt, xn, xk, xd⟩) (hm : m ≤ 1000) (hM : mayE t xt ≠ 0) :
    Calls Try.prog 19 #[.pointer (some ⟨B, 0, none⟩), .pointer (some ⟨D, 0, none⟩), .slice A told.length c, .agg #[.int .i64 kind, .int .i64 place, .bool true, .int .i64 xi, .int .i64 xg, .int .i64 xt, .bool xn, .int .i64 xk, .int .i64 xd]] w fun e w' => ∃ O' S' U' r' A' c', e = .returned (.tuple #[.slice A' (doT t told kind ⟨⟨yi, yg⟩, ⟨xt, xn, xk, xd⟩⟩).2.length c', .bool true]) ∧
      Duo N (m + 1) w' O' S' U' B D (doT t told kind ⟨⟨yi, yg⟩, ⟨xt, xn, xk, xd⟩⟩).1 r' A' c' (doT t told kind ⟨⟨yi, yg⟩, ⟨xt, xn, xk, xd⟩⟩).2 ∧ Below N w w' := by
  have HMy := Lib.hid hM
  clear hM
  have HSt0 := Lib.hid h
  have HK := Lib.hid hk
  have HM := Lib.hid hm
  have hlen := h.len
  have HOw : Hid (∀ k, O k → k < w.heap.size) := Lib.hid (fun k hk => (h.o k hk).2.1)
  have HDl : Hid (D < w.heap.size) := Lib.hid h.ref.lt
  have HFew := Lib.hid h.few
  have HSer := Lib.hid h.ser
  have HX0 := Lib.hid hx
  have hu36 := Try.underlying36
  have hu34 := Try.underlying34
  have hu32 := Try.underlying32
  have hu30 := Try.underlying30
  have hu28 := Try.underlying28
  have HFx : Hid (In64O ⟨xt, xn, xk, xd⟩) := HX0
  have hixl := (List.getElem?_eq_some_iff.1 hy).1
  clear h hk hx
  have tpos : decide ((told.length : Int) > 0) = true := decide_eq_true (by omega)
  go_enter Try.func19, Try.ntmps19
  go_wp2_with fail
  refine gw (fun wa hwa => ?_)
  have HBa : Hid (Below w.heap.size w wa) := Lib.hid (by rw [← hwa]; exact ((Below.refl _ _).alloc (Nat.le_refl _) _).alloc (by simp) _)
  have HAa : Hid (Blk wa w.heap.size #[.int .i64 kind, .int .i64 place, .bool true, .int .i64 xi, .int .i64 xg, .int .i64 xt, .bool xn, .int .i64 xk, .int .i64 xd] 36) := Lib.hid (by rw [← hwa]; exact (Blk.new _ _ _).alloc _)
  have HXa : Hid (Blk wa (w.heap.size + 1) #[.int .i64 xi, .int .i64 xg, .int .i64 xt, .bool xn, .int .i64 xk, .int .i64 xd] 34) := Lib.hid (by rw [← hwa]; exact Blk.at_ (by simp) _ _)
  clear hwa
  refine (rest place (told.length : Int) (by omega) _).mono ?_
  rintro e w3 ⟨rfl, q3, rfl⟩
  rw [hri]
  have HB3 : Hid (Below w.heap.size w (wa.drewN q3)) := Lib.hid (bdn HBa.out q3)
  have HA3 : Hid (Blk (wa.drewN q3) w.heap.size #[.int .i64 kind, .int .i64 place, .bool true, .int .i64 xi, .int .i64 xg, .int .i64 xt, .bool xn, .int .i64 xk, .int .i64 xd] 36) := Lib.hid (HAa.out.drewN q3)
  have HX3 : Hid (Blk (wa.drewN q3) (w.heap.size + 1) #[.int .i64 xi, .int .i64 xg, .int .i64 xt, .bool xn, .int .i64 xk, .int .i64 xd] 34) := Lib.hid (HXa.out.drewN q3)
  generalize wa.drewN q3 = w3 at *
  clear HBa HAa HXa
  obtain ⟨ad, hA, r0, r1, r2, r3, r4, r5⟩ := row_at (Kd.F_now (HSt0.out.below HB3.out).row) hy
  subst hA
  have hx3 := HX3.out.lt
  have ha3 := HA3.out.lt
  have hne3 : w.heap.size ≠ w3.heap.size := by omega
  have hne4 : w.heap.size + 1 ≠ w3.heap.size := by omega
  have hi30 : (0 : Int) ≤ ix := by omega
  have hi3N : (ix : Int) < told.length := by omega
  have e3 : (ix : Int).toNat = ix := by omega
  have g0 := HA3.out.cell (j := 0) rfl
  have y0 := HX3.out.cell (j := 0) rfl
  have y1 := HX3.out.cell (j := 1) rfl
  have y2 := HX3.out.cell (j := 2) rfl
  have y3 := HX3.out.cell (j := 3) rfl
  have y4 := HX3.out.cell (j := 4) rfl
  have y5 := HX3.out.cell (j := 5) rfl
  have yf0 := HX3.out.free 0
  have yf1 := HX3.out.free 1
  have yf2 := HX3.out.free 2
  have yf3 := HX3.out.free 3
  have yf4 := HX3.out.free 4
  have yf5 := HX3.out.free 5
  go_wp2_with fail
  refine gw (fun wb0 hwb => ?_)
  have HBw0 : Hid (Below w.heap.size w wb0) := Lib.hid (by rw [← hwb]; exact ((HB3.out.setCell (by simp) _).setCell (by simp) _).alloc (by have := HB3.out.size; simp; omega) _)
  have HX0 : Hid (Blk wb0 (w.heap.size + 1) #[.int .i64 yi, .int .i64 yg, .int .i64 xt, .bool xn, .int .i64 xk, .int .i64 xd] 34) := Lib.hid (by rw [← hwb]; exact ((HX3.out.set 0 _).set 1 _).alloc _)
  have HY0 : Hid (Blk wb0 w3.heap.size #[.int .i64 yi, .int .i64 yg, .int .i64 yt, .bool yn, .int .i64 yk, .int .i64 yd] 34) := Lib.hid (by rw [← hwb]; exact Blk.at_ (by simp) _ _)
  have HA0 : Hid (Blk wb0 w.heap.size #[.int .i64 kind, .int .i64 place, .bool true, .int .i64 xi, .int .i64 xg, .int .i64 xt, .bool xn, .int .i64 xk, .int .i64 xd] 36) := Lib.hid (by rw [← hwb]; exact ((HA3.out.far (p := ⟨w.heap.size + 1, 0, none⟩) (by simp) _).far (p := ⟨w.heap.size + 1, 1, none⟩) (by simp) _).alloc _)
  clear hwb HB3 HA3 r0 r1 r2 r3 r4 r5 g0 y0 y1 y2 y3 y4 y5 yf0 yf1 yf2 yf3 yf4 yf5 hi30 hi3N e3
  refine (rest kind 4 (by decide) _).mono ?_
  rintro e w5 ⟨rfl, q5, rfl⟩
  rw [HK.out]
  have HBw1 : Hid (Below w.heap.size w (wb0.drewN q5)) := Lib.hid (bdn HBw0.out q5)
  have HX1 := Lib.hid (HX0.out.drewN q5)
  have HY1 := Lib.hid (HY0.out.drewN q5)
  have HA1 := Lib.hid (HA0.out.drewN q5)
  generalize wb0.drewN q5 = wb1 at *
  clear HBw0 HX0 HY0 HA0
  have g0 := HA1.out.cell (j := 0) rfl
  go_wp2_with fail
  have HBw := HBw1
  have HX := HX1
  clear HBw1 HX1 HY1 HA1 g0
  generalize wb1 = wb at *
  refine (rest kind 4 (by decide) _).mono ?_
  rintro e wc0 ⟨rfl, q4, rfl⟩
  rw [HK.out]
  have HBc : Hid (Below w.heap.size w (wb.drewN q4)) := Lib.hid (bdn HBw.out q4)
  have HXc := Lib.hid (HX.out.drewN q4)
  generalize wb.drewN q4 = wc at *
  clear HBw HX
  have HSt := Lib.hid (HSt0.out.below HBc.out)
  have zc := HXc.out.lt
  have y0 := HXc.out.cell (j := 0) rfl
  have y1 := HXc.out.cell (j := 1) rfl
  have y2 := HXc.out.cell (j := 2) rfl
  have y3 := HXc.out.cell (j := 3) rfl
  have y4 := HXc.out.cell (j := 4) rfl
  have y5 := HXc.out.cell (j := 5) rfl
  go_wp2_with fail
  refine (issueAt HSt.out.tab (x := xt) (key := xk) (ins := xn) HFx.out.1 HFx.out.2.1 (by have := HFew.out; have := HM.out; omega) (by have := HSer.out; have := HM.out; omega)).mono ?_
  rintro e w4 ⟨he, ht4, hc4⟩
  have HXd := Lib.hid (HXc.out.keep hc4 (fun ho => by have := HOw.out _ ho; omega))
  have HC4 := Lib.hid hc4
  have z4 := hc4.size
  rw [show issueR t xt xn xk = (listed0, mayE t xt, t) from if_neg HMy.out] at he ht4
  obtain ⟨M, hMe⟩ : ∃ M, mayE t xt = M := ⟨_, rfl⟩
  rw [hMe] at he
  change e = .returned (.tuple #[.agg #[.int .i64 0, .int .i64 0, .int .i64 0, .bool false, .int .i64 0, .int .i64 0], .int .i64 M]) at he
  subst he
  have t1 : (M == 0) = false := beq_eq_false_iff_ne.2 (by rw [← hMe]; exact HMy.out)
  have HMe := Lib.hid hMe
  have HT4 := Lib.hid ht4
  clear ht4 hc4 hMe HXc y0 y1 y2 y3 y4 y5
  have zx := HXd.out.lt
  have zxn : w.heap.size + 1 ≠ w4.heap.size := by omega
  have y0 := HXd.out.cell (j := 0) rfl
  have y1 := HXd.out.cell (j := 1) rfl
  have y2 := HXd.out.cell (j := 2) rfl
  have y3 := HXd.out.cell (j := 3) rfl
  have y4 := HXd.out.cell (j := 4) rfl
  have y5 := HXd.out.cell (j := 5) rfl
  go_wp2_with fail
  refine gw (fun wd hwd => ?_)
  have HBd : Hid (Below w4.heap.size w4 wd) := Lib.hid (by rw [← hwd]; exact (Below.refl _ _).alloc (Nat.le_refl _) _)
  have HGd : Hid (Blk wd w4.heap.size #[.int .i64 0, .int .i64 0, .int .i64 0, .bool false, .int .i64 0, .int .i64 0] 34) := Lib.hid (by rw [← hwd]; exact Blk.new _ _ _)
  clear hwd HXd y0 y1 y2 y3 y4 y5 zx zxn
  have HRf := Lib.hid ((HSt.out.refKeep HC4.out).below HBd.out)
  have hfw := HSt.out.tab.good.few
  have hrl := HSt.out.rel.len
  have hlv := liveN_le t.slots
  refine (rissue_err HRf.out (by omega) (x := xt) (key := xk) (ins := xn) (M := M) (by rw [HSt.out.rel.may]; exact HMe.out) (by rw [← HMe.out]; exact HMy.out)).mono ?_
  rintro e w5 ⟨rfl, hb5⟩
  have HB5 := Lib.hid hb5
  have HGe := Lib.hid (HGd.out.below hb5)
  have z5 := hb5.size
  have zg := HGd.out.lt
  clear hb5 HGd hfw hrl hlv
  simp only [aggL, aggListed, listed0, op0]
  go_wp2_with fail
  refine gwP (fun wf hwf => ?_)
  have HBf : Hid (Below w5.heap.size w5 wf) := Lib.hid (by rw [← hwf]; exact (Below.refl _ _).alloc (Nat.le_refl _) _)
  have HHf : Hid (Blk wf w5.heap.size #[.int .i64 0, .int .i64 0, .int .i64 0, .bool false, .int .i64 0, .int .i64 0] 34) := Lib.hid (by rw [← hwf]; exact Blk.new _ _ _)
  have HGf := Lib.hid (HGe.out.below HBf.out)
  clear hwf HGe
  have g0 := HGf.out.cell (j := 0) rfl
  have g1 := HGf.out.cell (j := 1) rfl
  have g2 := HGf.out.cell (j := 2) rfl
  have g3 := HGf.out.cell (j := 3) rfl
  have g4 := HGf.out.cell (j := 4) rfl
  have g5 := HGf.out.cell (j := 5) rfl
  have h0 := HHf.out.cell (j := 0) rfl
  have h1 := HHf.out.cell (j := 1) rfl
  have h2 := HHf.out.cell (j := 2) rfl
  have h3 := HHf.out.cell (j := 3) rfl
  have h4 := HHf.out.cell (j := 4) rfl
  have h5 := HHf.out.cell (j := 5) rfl
  go_quiet (fail)
  go_wp2_with fail
  go_ret2
  obtain ⟨hd, hb⟩ := HSt.out.both (m' := m + 1) (O' := More O wc wd) (S' := S) (w2 := w5) (Or.inr rfl) (HC4.out.trans (Chg.of_below (S := fun _ => False) HBd.out) (fun _ _ h => h.elim)) ((HT4.out.wider (fun k hk => hk.imp id (fun h => ⟨h.1, Nat.lt_of_lt_of_le h.2 HBd.out.size⟩))).below HBd.out) (fun k hk => Or.inl hk) (Chg.of_below HB5.out) (HRf.out.below HB5.out) HSt.out.rel (by omega) (by have := HFew.out; omega) (by have := HSer.out; omega)
  have ed : doT t told kind ⟨⟨yi, yg⟩, ⟨xt, xn, xk, xd⟩⟩ = (t, told) := by unfold doT; rw [if_pos HK.out, if_neg HMy.out]
  rw [ed]
  exact ⟨_, _, _, _, _, _, rfl, hd.below (by repeat (first | exact HBf.out | refine bdn ?_ _)), (HBc.out.mono HSt0.out.n).trans (hb.trans ((by repeat (first | exact HBf.out | refine bdn ?_ _) : Below w5.heap.size w5 _).mono (by have := HSt.out.n; have := HBd.out.size; omega)))⟩
end Go.Proofs.Ytccfjjaljckinaa.Tag
