/- A table that is made: what comes of it, whatever the input. No conditions. -/
import Derived.Test.YtccfjjaljckinaaRMh
import Derived.LoopTactic
import Derived.IntWalk
import Derived.Deep.QuietTactic
import Derived.BigQuiet
namespace Go.Proofs.Ytccfjjaljckinaa.Tag
open Go.RowKit Go.Lib Go.Shelf Go.Proofs.Ytccfjjaljckinaa.Mem Go.Proofs.Ytccfjjaljckinaa.IMap Go.Proofs.YtccfjjaljckinaaW.PrintWords Go.Proofs.YtccfjjaljckinaaW.PrintLast Go.Proofs.YtccfjjaljckinaaW.PrintMore Go.Proofs.Ytccfjjaljckinaa.PTagActs
set_option linter.unusedVariables false

/-- The head's test. -/
def headBad (cap serial : Int) (lasts : List Int) (n : Nat) : Prop := cap < 0 ∨ 65536 < cap ∨ serial < 0 ∨ lasts.getLast? = some 0 ∨ cap < n
def slotsOf (l : List Int) : List Slot := l.map (fun v => ⟨v, 0, op0⟩)
/-- The operations, one after the other. -/
def revs : Tab → Option Int → List Listed → Option Tab
  | t, _, [] => some t
  | t, p, x :: l => if (p.any (fun y => decide (x.o.time ≤ y))) = true ∨ reviveE t x ≠ 0 then none else revs (reviveT t x) (some x.o.time) l
open Classical in
noncomputable def makeR (cap serial : Int) (lasts : List Int) (l : List Listed) : Option Tab :=
  if headBad cap serial lasts l.length then none
  else if ∃ v ∈ lasts, v < 0 ∨ 4294967295 < v then none
  else revs ⟨cap, serial, slotsOf lasts⟩ none l
def MakePost (cap serial : Int) (lasts : List Int) (l : List Listed) (w : World) (e : Ending) (w' : World) : Prop :=
  Below w.heap.size w w' ∧ ((makeR cap serial lasts l = none ∧ e = .returned (.tuple #[.pointer none, .int .i64 2])) ∨
    ∃ (T : Nat) (O : Nat → Prop) (t : Tab), makeR cap serial lasts l = some t ∧ e = .returned (.tuple #[.pointer (some ⟨T, 0, none⟩), .int .i64 0]) ∧ TabAt w' O T t ∧ ∀ k, O k → w.heap.size ≤ k)
theorem makeR_head {cap serial : Int} {lasts : List Int} {l : List Listed} (h : headBad cap serial lasts l.length) : makeR cap serial lasts l = none := by
  unfold makeR
  rw [if_pos h]
theorem makeR_last {cap serial : Int} {lasts : List Int} {l : List Listed} {v : Int} (hv : v ∈ lasts) (h : v < 0 ∨ 4294967295 < v) : makeR cap serial lasts l = none := by
  unfold makeR
  split
  · rfl
  · rw [if_pos ⟨v, hv, h⟩]
theorem makeR_revs {cap serial : Int} {lasts : List Int} {l : List Listed} (h : ¬ headBad cap serial lasts l.length) (hv : ∀ v ∈ lasts, 0 ≤ v ∧ v ≤ 4294967295) : makeR cap serial lasts l = revs ⟨cap, serial, slotsOf lasts⟩ none l := by
  unfold makeR
  rw [if_neg h, if_neg (by rintro ⟨v, hm, h1⟩; have := hv v hm; omega)]
theorem getLast_at {l : List Int} (h : 0 < l.length) : l.getLast? = l[l.length - 1]? := by rw [List.getLast?_eq_getElem?]

/-- One slot more, free. -/
theorem TabV.push {w2 w3 : World} {B M : Nat} {v : Value} {t : Tab} (h : TabV w2 B M v t) {s : Slot} (hg : s.gen = 0) (hs : GoodSlot s) (hroom : t.slots.length + 1 ≤ 1000000) {g' cap' : Nat}
    (hown : w3.ownsRow 0 73 6 (.slice (some ⟨g', 0, none⟩) (t.slots.length + 1) cap') (t.slots.length + 1) (cellsOf t.slots ++ encSlot s)) (hch : Chg (fun k => v.ownBlock = some k) w2 w3)
    (hloc : v.ownBlock = some g' ∨ w2.heap.size ≤ g') :
    TabV (w3.setCell ⟨B, 2, none⟩ (.slice (some ⟨g', 0, none⟩) (t.slots.length + 1) cap')) B M (.slice (some ⟨g', 0, none⟩) (t.slots.length + 1) cap') { t with slots := t.slots ++ [s] } ∧
      Chg (fun k => k = B ∨ v.ownBlock = some k) w2 (w3.setCell ⟨B, 2, none⟩ (.slice (some ⟨g', 0, none⟩) (t.slots.length + 1) cap')) := by
  have hBv : v.ownBlock ≠ some B := by
    intro e
    obtain ⟨_, ⟨rfl, _⟩ | ⟨R, cap, cur, rfl, _, hb, _⟩⟩ := h.row
    · cases e
    · have : R = B := by simpa [Value.ownBlock] using e
      subst this
      have := h.head
      unfold Blk at this
      rw [hb] at this
      injection this with this
      injection this with _ this
      exact absurd this (by decide)
  have hMv : v.ownBlock ≠ some M := by
    intro e
    obtain ⟨_, ⟨rfl, _⟩ | ⟨R, cap, cur, rfl, _, hb, _⟩⟩ := h.row
    · cases e
    · have : R = M := by simpa [Value.ownBlock] using e
      subst this
      obtain ⟨es, clock, hm⟩ := h.map.block
      rw [hb] at hm
      cases hm
  have hgB : g' ≠ B := by
    rcases hloc with e | e
    · intro h'; exact hBv (by rw [e, h'])
    · have := h.head.lt; omega
  have hc2 : Chg (fun k => k = B ∨ v.ownBlock = some k) w2 (w3.setCell ⟨B, 2, none⟩ (.slice (some ⟨g', 0, none⟩) (t.slots.length + 1) cap')) :=
    (hch.mono (S' := fun k => k = B ∨ v.ownBlock = some k) (fun k _ h => Or.inr h)).set (p := ⟨B, 2, none⟩) (fun _ => Or.inl rfl) _
  have hl : liveN (t.slots ++ [s]) = liveN t.slots := by unfold liveN; simp [hg]
  have hf : ∀ x, timesOf t.slots x = timesOf (t.slots ++ [s]) x := by
    intro x
    unfold timesOf
    rw [List.findIdx?_append]
    cases t.slots.findIdx? (fun s => decide (0 < s.gen) && decide (s.op.time = x)) with
    | some i => rfl
    | none => simp [hg]
  have hG : Good { t with slots := t.slots ++ [s] } := by
    have h := h.good
    refine ⟨h.cap0, h.cap1, h.serial, fun s' hs' => ?_, fun a b x y ha hb hx hy he => ?_, by show (t.slots ++ [s]).length ≤ 1000000; simp; omega⟩
    · rcases List.mem_append.1 hs' with hs' | hs'
      · exact h.slots s' hs'
      · rw [List.mem_singleton] at hs'
        subst hs'
        exact hs
    · have low : ∀ (a : Nat) (x : Slot), (t.slots ++ [s])[a]? = some x → 0 < x.gen → t.slots[a]? = some x := by
        intro a x ha hx
        rw [List.getElem?_append] at ha
        split at ha
        · exact ha
        · have := List.mem_of_getElem? ha
          rw [List.mem_singleton] at this
          subst this
          omega
      exact h.times a b x y (low a x ha hx) (low b y hb hy) hx hy he
  refine ⟨TabV.of (f := timesOf t.slots) (n := liveN t.slots) (m := liveN t.slots) (xs := cellsOf t.slots ++ encSlot s) ((h.head.keep hch hBv).set 2 _) ?_ ?_ ?_ hl.symm hf hG, hc2⟩
  · show (World.setCell _ _ _).ownsRow 0 73 6 _ (t.slots ++ [s]).length _
    rw [List.length_append]
    exact row_far hown hgB
  · show _ = cellsOf (t.slots ++ [s])
    unfold cellsOf
    rw [List.flatMap_append]
    rfl
  · exact h.map.keep (hc2.block M h.map.lt (by rintro (h' | h'); exact h.BM h'.symm; exact hMv h'))
theorem slot_good {v : Int} (h0 : 0 ≤ v) (h1 : v ≤ 4294967295) : GoodSlot ⟨v, 0, op0⟩ := ⟨h0, h1, Int.le_refl _, h0, by unfold In64 op0; simp, by unfold In64 op0; simp, by unfold In64 op0; simp⟩

set_option maxRecDepth 100000 in
set_option maxHeartbeats 4000000 in
theorem make_a {w : World} {cap serial : Int} {A1 A2 : Option Addr} {c1 c2 : Nat} {lasts : List Int} {l : List Listed} (h1 : Kd.C (Kd.int .i64) w A1 lasts.length lasts) (g1 : lasts.length ≤ c1) (h2 : Kd.C k34 w A2 l.length (sL l)) (g2 : l.length ≤ c2) (hn1 : lasts.length ≤ 1000) (hn2 : l.length ≤ 1000) (b1 : cap < 0) :
    Calls Try.prog 16 #[.int .i64 cap, .int .i64 serial, .slice A1 lasts.length c1, .slice A2 l.length c2] w (MakePost cap serial lasts l w) := by
  have HR := Lib.hid (makeR_head (cap := cap) (serial := serial) (lasts := lasts) (l := l) (Or.inl b1))
  have t1 : decide (cap < 0) = true := decide_eq_true (by omega)
  clear h1 h2 g1 g2
  go_enter Try.func16, Try.ntmps16
  go_wp2_with fail
  go_ret2
  exact ⟨Below.refl _ _, Or.inl ⟨HR.out, rfl⟩⟩

set_option maxRecDepth 100000 in
set_option maxHeartbeats 4000000 in
theorem make_b {w : World} {cap serial : Int} {A1 A2 : Option Addr} {c1 c2 : Nat} {lasts : List Int} {l : List Listed} (h1 : Kd.C (Kd.int .i64) w A1 lasts.length lasts) (g1 : lasts.length ≤ c1) (h2 : Kd.C k34 w A2 l.length (sL l)) (g2 : l.length ≤ c2) (hn1 : lasts.length ≤ 1000) (hn2 : l.length ≤ 1000) (b1 : ¬ cap < 0) (b2 : 65536 < cap) :
    Calls Try.prog 16 #[.int .i64 cap, .int .i64 serial, .slice A1 lasts.length c1, .slice A2 l.length c2] w (MakePost cap serial lasts l w) := by
  have HR := Lib.hid (makeR_head (cap := cap) (serial := serial) (lasts := lasts) (l := l) (Or.inr (Or.inl b2)))
  have t1 : decide (cap < 0) = false := decide_eq_false (by omega)
  have t2 : decide (cap > 65536) = true := decide_eq_true (by omega)
  clear h1 h2 g1 g2
  go_enter Try.func16, Try.ntmps16
  go_wp2_with fail
  go_ret2
  exact ⟨Below.refl _ _, Or.inl ⟨HR.out, rfl⟩⟩

set_option maxRecDepth 100000 in
set_option maxHeartbeats 4000000 in
theorem make_c {w : World} {cap serial : Int} {A1 A2 : Option Addr} {c1 c2 : Nat} {lasts : List Int} {l : List Listed} (h1 : Kd.C (Kd.int .i64) w A1 lasts.length lasts) (g1 : lasts.length ≤ c1) (h2 : Kd.C k34 w A2 l.length (sL l)) (g2 : l.length ≤ c2) (hn1 : lasts.length ≤ 1000) (hn2 : l.length ≤ 1000) (b1 : ¬ cap < 0) (b2 : ¬ 65536 < cap) (b3 : serial < 0) :
    Calls Try.prog 16 #[.int .i64 cap, .int .i64 serial, .slice A1 lasts.length c1, .slice A2 l.length c2] w (MakePost cap serial lasts l w) := by
  have HR := Lib.hid (makeR_head (cap := cap) (serial := serial) (lasts := lasts) (l := l) (Or.inr (Or.inr (Or.inl b3))))
  have t1 : decide (cap < 0) = false := decide_eq_false (by omega)
  have t2 : decide (cap > 65536) = false := decide_eq_false (by omega)
  have t3 : decide (serial < 0) = true := decide_eq_true (by omega)
  clear h1 h2 g1 g2
  go_enter Try.func16, Try.ntmps16
  go_wp2_with fail
  go_ret2
  exact ⟨Below.refl _ _, Or.inl ⟨HR.out, rfl⟩⟩

set_option maxRecDepth 100000 in
set_option maxHeartbeats 4000000 in
theorem make_d {w : World} {cap serial : Int} {A1 A2 : Option Addr} {c1 c2 : Nat} {lasts : List Int} {l : List Listed} (h1 : Kd.C (Kd.int .i64) w A1 lasts.length lasts) (g1 : lasts.length ≤ c1) (h2 : Kd.C k34 w A2 l.length (sL l)) (g2 : l.length ≤ c2) (hn1 : lasts.length ≤ 1000) (hn2 : l.length ≤ 1000) (b1 : ¬ cap < 0) (b2 : ¬ 65536 < cap) (b3 : ¬ serial < 0) (b4 : lasts.getLast? = some 0) :
    Calls Try.prog 16 #[.int .i64 cap, .int .i64 serial, .slice A1 lasts.length c1, .slice A2 l.length c2] w (MakePost cap serial lasts l w) := by
  have HR := Lib.hid (makeR_head (cap := cap) (serial := serial) (lasts := lasts) (l := l) (Or.inr (Or.inr (Or.inr (Or.inl b4)))))
  have t1 : decide (cap < 0) = false := decide_eq_false (by omega)
  have t2 : decide (cap > 65536) = false := decide_eq_false (by omega)
  have t3 : decide (serial < 0) = false := decide_eq_false (by omega)
  have hlp : 0 < lasts.length := by cases lasts with | nil => simp at b4 | cons a r => simp
  rw [getLast_at hlp] at b4
  obtain ⟨ae, hA, m0⟩ := irow_at h1 b4
  subst hA
  have t4 : decide ((lasts.length : Int) > 0) = true := decide_eq_true (by omega)
  have hw0 : wrap64 ((lasts.length : Int) - 1) = ((lasts.length - 1 : Nat) : Int) := by unfold wrap64; omega
  have hw2 : (lasts.length : Int) - 1 = ((lasts.length - 1 : Nat) : Int) := by omega
  have hw3 : (0 : Int) ≤ ((lasts.length - 1 : Nat) : Int) := by omega
  have hw4 : ((lasts.length - 1 : Nat) : Int) < lasts.length := by omega
  have hw5 : (((lasts.length - 1 : Nat) : Int)).toNat = lasts.length - 1 := by omega
  clear h1 h2 g1 g2 b4 hlp
  go_enter Try.func16, Try.ntmps16
  go_wp2_with fail
  go_ret2
  exact ⟨Below.refl _ _, Or.inl ⟨HR.out, rfl⟩⟩

set_option maxRecDepth 100000 in
set_option maxHeartbeats 4000000 in
theorem make_e0 {w : World} {cap serial : Int} {A1 A2 : Option Addr} {c1 c2 : Nat} {lasts : List Int} {l : List Listed} (h1 : Kd.C (Kd.int .i64) w A1 lasts.length lasts) (g1 : lasts.length ≤ c1) (h2 : Kd.C k34 w A2 l.length (sL l)) (g2 : l.length ≤ c2) (hn1 : lasts.length ≤ 1000) (hn2 : l.length ≤ 1000) (b1 : ¬ cap < 0) (b2 : ¬ 65536 < cap) (b3 : ¬ serial < 0) (b4 : lasts.length = 0) (b5 : cap < l.length) :
    Calls Try.prog 16 #[.int .i64 cap, .int .i64 serial, .slice A1 lasts.length c1, .slice A2 l.length c2] w (MakePost cap serial lasts l w) := by
  have HR := Lib.hid (makeR_head (cap := cap) (serial := serial) (lasts := lasts) (l := l) (Or.inr (Or.inr (Or.inr (Or.inr b5)))))
  have t1 : decide (cap < 0) = false := decide_eq_false (by omega)
  have t2 : decide (cap > 65536) = false := decide_eq_false (by omega)
  have t3 : decide (serial < 0) = false := decide_eq_false (by omega)
  obtain rfl : lasts = [] := List.length_eq_zero_iff.1 b4
  have t5 : decide ((l.length : Int) > cap) = true := decide_eq_true (by omega)
  clear h1 h2 g1 g2 b4
  go_enter Try.func16, Try.ntmps16
  go_wp2_with fail
  go_ret2
  exact ⟨Below.refl _ _, Or.inl ⟨HR.out, rfl⟩⟩

set_option maxRecDepth 100000 in
set_option maxHeartbeats 4000000 in
theorem make_e1 {w : World} {cap serial : Int} {A1 A2 : Option Addr} {c1 c2 : Nat} {lasts : List Int} {l : List Listed} (h1 : Kd.C (Kd.int .i64) w A1 lasts.length lasts) (g1 : lasts.length ≤ c1) (h2 : Kd.C k34 w A2 l.length (sL l)) (g2 : l.length ≤ c2) (hn1 : lasts.length ≤ 1000) (hn2 : l.length ≤ 1000) (b1 : ¬ cap < 0) (b2 : ¬ 65536 < cap) (b3 : ¬ serial < 0) {v : Int} (b4 : lasts.getLast? = some v) (b6 : v ≠ 0) (b5 : cap < l.length) :
    Calls Try.prog 16 #[.int .i64 cap, .int .i64 serial, .slice A1 lasts.length c1, .slice A2 l.length c2] w (MakePost cap serial lasts l w) := by
  have HR := Lib.hid (makeR_head (cap := cap) (serial := serial) (lasts := lasts) (l := l) (Or.inr (Or.inr (Or.inr (Or.inr b5)))))
  have t1 : decide (cap < 0) = false := decide_eq_false (by omega)
  have t2 : decide (cap > 65536) = false := decide_eq_false (by omega)
  have t3 : decide (serial < 0) = false := decide_eq_false (by omega)
  have hlp : 0 < lasts.length := by cases lasts with | nil => simp at b4 | cons a r => simp
  rw [getLast_at hlp] at b4
  obtain ⟨ae, hA, m0⟩ := irow_at h1 b4
  subst hA
  have t4 : decide ((lasts.length : Int) > 0) = true := decide_eq_true (by omega)
  have hw0 : wrap64 ((lasts.length : Int) - 1) = ((lasts.length - 1 : Nat) : Int) := by unfold wrap64; omega
  have hw2 : (lasts.length : Int) - 1 = ((lasts.length - 1 : Nat) : Int) := by omega
  have hw3 : (0 : Int) ≤ ((lasts.length - 1 : Nat) : Int) := by omega
  have hw4 : ((lasts.length - 1 : Nat) : Int) < lasts.length := by omega
  have hw5 : (((lasts.length - 1 : Nat) : Int)).toNat = lasts.length - 1 := by omega
  have t5 : decide ((l.length : Int) > cap) = true := decide_eq_true (by omega)
  have t6 : (v == 0) = false := beq_eq_false_iff_ne.2 b6
  clear h1 h2 g1 g2 b4 hlp b6
  go_enter Try.func16, Try.ntmps16
  go_wp2_with fail
  go_ret2
  exact ⟨Below.refl _ _, Or.inl ⟨HR.out, rfl⟩⟩
noncomputable def T16_16 : Bool × List (List Nat × List Nat) := rtab .any (opsOf Try.f16 16)
theorem tab16_16 : rtab .any (opsOf Try.f16 16) = T16_16 := rfl
theorem bits16_16 : waitsOk T16_16.2 [0, 1, 3, 7, 7, 23, 63, 127, 255, 511, 7, 1031, 3079, 8191, 16383, 32767, 65535, 65535, 262143, 524287, 1048575] = true := by kernel_rfl

theorem revs_ok {t : Tab} {p : Option Int} {x : Listed} {l : List Listed} (h1 : ¬ (p.any (fun y => decide (x.o.time ≤ y))) = true) (h2 : reviveE t x = 0) : revs t p (x :: l) = revs (reviveT t x) (some x.o.time) l := by
  rw [revs, if_neg (by rintro (h | h); exact h1 h; exact h h2)]
theorem revs_bad {t : Tab} {p : Option Int} {x : Listed} {l : List Listed} (h : (p.any (fun y => decide (x.o.time ≤ y))) = true ∨ reviveE t x ≠ 0) : revs t p (x :: l) = none := by
  rw [revs, if_pos h]
def prevT (l : List Listed) (k : Nat) : Option Int := if k = 0 then none else (l[k - 1]?).map (fun y => y.o.time)
theorem drop_at {l : List Listed} {k : Nat} {x : Listed} (hx : l[k]? = some x) : l.drop k = x :: l.drop (k + 1) := by
  obtain ⟨h, e⟩ := List.getElem?_eq_some_iff.1 hx
  rw [List.drop_eq_getElem_cons h, e]
theorem prevT_succ {l : List Listed} {k : Nat} {x : Listed} (hx : l[k]? = some x) : prevT l (k + 1) = some x.o.time := by
  unfold prevT
  rw [if_neg (by omega)]
  simp [hx]

set_option maxRecDepth 100000 in
set_option maxHeartbeats 8000000 in
theorem make_in_n {w : World} {cap serial : Int} {A1 A2 : Option Addr} {c1 c2 : Nat} {lasts : List Int} {l : List Listed} (h1 : Kd.C (Kd.int .i64) w A1 lasts.length lasts) (g1 : lasts.length ≤ c1) (h2 : Kd.C k34 w A2 l.length (sL l)) (g2 : l.length ≤ c2) (hn1 : lasts.length ≤ 1000) (hn2 : l.length ≤ 1000) (b1 : ¬ cap < 0) (b2 : ¬ 65536 < cap) (b3 : ¬ serial < 0) (b5 : ¬ cap < l.length) (hs : In64 serial) (hfl : ∀ x ∈ l, In64O x.o) (b4 : lasts = []) (hlast : ¬ headBad cap serial lasts l.length) :
    Calls Try.prog 16 #[.int .i64 cap, .int .i64 serial, .slice A1 lasts.length c1, .slice A2 l.length c2] w (MakePost cap serial lasts l w) := by
  have H1 := Lib.hid h1
  have H2 := Lib.hid h2
  have HS := Lib.hid hs
  have HFl := Lib.hid hfl
  have HHd := Lib.hid hlast
  have hu34 := Try.underlying34
  have hu32 := Try.underlying32
  have hu30 := Try.underlying30
  have hu28 := Try.underlying28
  have hu73 := Try.underlying73
  have hu70 := Try.underlying70
  have t1 : decide (cap < 0) = false := decide_eq_false (by omega)
  have t2 : decide (cap > 65536) = false := decide_eq_false (by omega)
  have t3 : decide (serial < 0) = false := decide_eq_false (by omega)
  have t5 : decide ((l.length : Int) > cap) = false := decide_eq_false (by omega)
  subst b4
  clear h1 h2 hs hfl hlast
  obtain ⟨i0, hi, hz0, hz1, hz2⟩ := info_parts info73
  go_enter Try.func16, Try.ntmps16
  go_wp2_with fail
  refine (new_ cap _).mono ?_
  rintro e w1 ⟨rfl, hT, hb⟩
  have HT := Lib.hid hT
  have HB := Lib.hid hb
  have hc1 := hT.head.cell (j := 1) rfl
  have hf1 := hT.head.free 1
  have hBl := hT.head.lt
  clear hT hb
  go_wp2_with fail
  refine gwP (fun wq hwq => ?_)
  have HTq : Hid (TabV wq (w.heap.size + 1) w.heap.size (.slice none 0 0) ⟨cap, serial, []⟩) := Lib.hid (by
    have h0 := HT.out
    have ec : (newT cap).cap = cap := by unfold newT capC; simp only; omega
    have g0 := h0.good
    rw [← hwq]
    exact TabV.of (t' := ⟨cap, serial, []⟩) (f := timesOf []) (n := 0) (m := 0) (xs := []) (by have := h0.head.set 1 (.int .i64 serial); rw [ec] at this; exact this) ⟨rfl, Or.inl ⟨rfl, rfl⟩⟩ rfl (h0.map.keep (Below.heap_setCell _ _ _ _ (by simp))) rfl (fun _ => rfl) ⟨by rw [← ec]; exact g0.cap0, by rw [← ec]; exact g0.cap1, HS.out, fun s hs => (by cases hs), fun i j a b ha => (by simp at ha), by simp⟩)
  have HBq : Hid (Below w.heap.size w wq) := Lib.hid (by rw [← hwq]; exact HB.out.setCell (by simp) _)
  clear hwq HT HB hc1 hf1
  have HL : Hid (makeR cap serial [] l = revs ⟨cap, serial, []⟩ none l) := Lib.hid (makeR_revs HHd.out (fun v hv => by cases hv))
  skip
  have HMk : Hid (makeR cap serial [] l = revs ⟨cap, serial, slotsOf []⟩ none l) := HL
  have HT : Hid (TabV wq (w.heap.size + 1) w.heap.size (.slice none 0 0) ⟨cap, serial, slotsOf []⟩) := HTq
  have HOw : Hid (∀ j, (Value.slice none 0 0).ownBlock = some j → w.heap.size ≤ j) := Lib.hid (fun j hj => by simp [Value.ownBlock] at hj)
  clear HL
  go_loopw [54] (fun i wr => i = .int .i64 0 ∧ TabV wr (w.heap.size + 1) w.heap.size (.slice none 0 0) ⟨cap, serial, slotsOf []⟩ ∧ Below w.heap.size w wr) (fun _ _ => 0)
  case atStart => exact ⟨rfl, HT.out, HBq.out⟩
  case round =>
    clear HT HTq HBq
    obtain ⟨rfl, hT, hb⟩ := hrel
    have HT := Lib.hid hT
    have HB := Lib.hid hb
    clear hT hb
    have HTa : Hid (TabAt wr (fun j => w.heap.size ≤ j ∧ j < wr.heap.size) (w.heap.size + 1) ⟨cap, serial, slotsOf []⟩) := Lib.hid ⟨_, _, HT.out, ⟨by omega, HT.out.head.lt⟩, ⟨Nat.le_refl _, HT.out.map.lt⟩, fun j hj => ⟨HOw.out j hj, HT.out.ltV hj⟩⟩
    clear HT HOw
    go_wp2_with fail
    go_loopw [78] (fun i wr => ∃ (k : Nat) (t : Tab) (O : Nat → Prop), k ≤ l.length ∧ i = .int .i64 k ∧ revs ⟨cap, serial, slotsOf []⟩ none l = revs t (prevT l k) (l.drop k) ∧ TabAt wr O (w.heap.size + 1) t ∧ (∀ j, O j → w.heap.size ≤ j ∧ j < wr.heap.size) ∧ Below w.heap.size w wr) (fun i _ => l.length - (intOf i).toNat)
    case atStart => exact ⟨0, _, _, Nat.zero_le _, rfl, rfl, HTa.out, fun j hj => hj, HB.out⟩
    case round =>
      clear HTa HB
      obtain ⟨k, t, O, hk, rfl, hrv, hT, hO, hb⟩ := hrel
      have HTa := Lib.hid hT
      have HO := Lib.hid hO
      have HB := Lib.hid hb
      have HRv := Lib.hid hrv
      clear hT hO hb hrv
      by_cases hlt : k < l.length
      · obtain ⟨x, hx⟩ : ∃ x, l[k]? = some x := ⟨_, List.getElem?_eq_getElem hlt⟩
        have HX := Lib.hid hx
        obtain ⟨ad, hA, r0, r1, r2, r3, r4, r5⟩ := row_at (Kd.C_below H2.out HB.out) hx
        cases hA
        have HFx := Lib.hid (HFl.out x (List.mem_of_getElem? hx))
        have hk0 : (0 : Int) ≤ k := by omega
        have hkn : (k : Int) < l.length := by omega
        have hkt : ((k : Int)).toNat = k := by omega
        clear hx
        obtain ⟨⟨xi, xg⟩, ⟨xt, xn, xk, xd⟩⟩ := x
        dsimp only at r0 r1 r2 r3 r4 r5
        have hadl : (ad.add (k * 6)).block < wr.heap.size := World.block_lt_of_cell? _ _ r0
        go_wp2_with fail
        refine gwP (fun wa hwa => ?_)
        have hb : Below wr.heap.size wr wa := by rw [← hwa]; exact (Below.refl _ _).alloc (Nat.le_refl _) _
        have HXb : Hid (Blk wa wr.heap.size #[.int .i64 xi, .int .i64 xg, .int .i64 xt, .bool xn, .int .i64 xk, .int .i64 xd] 34) := Lib.hid (by rw [← hwa]; exact Blk.new _ _ _)
        have hb' : Below wr.heap.size wr wa.drew := hb.drew
        have HTb := Lib.hid (HTa.out.below hb')
        have HBb := Lib.hid (HB.out.trans (hb'.mono HB.out.size))
        have HXc := Lib.hid HXb.out.drew
        have HOb : Hid (∀ j, O j → w.heap.size ≤ j ∧ j < wa.drew.heap.size) := Lib.hid (fun j hj => ⟨(HO.out j hj).1, Nat.lt_of_lt_of_le (HO.out j hj).2 hb.size⟩)
        have HOl0 : Hid (∀ j, O j → j < wr.heap.size) := Lib.hid (fun j hj => (HO.out j hj).2)
        clear hb hb' hwa HXb HTa HB r0 r1 r2 r3 r4 r5 hadl HO
        by_cases hp0 : 0 < k
        · have HOlt := HOl0
          have b4 : decide ((0 : Int) < k) = true := decide_eq_true (by omega)
          have b6 : decide (0 < k) = true := decide_eq_true hp0
          obtain ⟨y, hy⟩ : ∃ y, l[k - 1]? = some y := ⟨_, List.getElem?_eq_getElem (by omega)⟩
          have HY := Lib.hid hy
          have HPr : Hid (prevT l k = some y.o.time) := Lib.hid (by unfold prevT; rw [if_neg (by omega), hy]; rfl)
          obtain ⟨ad', hA', y0, y1, y2, y3, y4, y5⟩ := row_at (Kd.C_below H2.out HBb.out) hy
          cases hA'
          clear y0 y1 y3 y4 y5 hy
          obtain ⟨⟨yi, yg⟩, ⟨yt, yn, yk, yd⟩⟩ := y
          dsimp only at y2 HPr
          have hw1 : IntKind.i64.wrap ((k - 1 : Nat) : Int) = ((k - 1 : Nat) : Int) := IntWalk.i64_in _ (by omega)
          have hw0 : wrap64 ((k : Int) - 1) = ((k - 1 : Nat) : Int) := by unfold wrap64; omega
          have hw2 : (k : Int) - 1 = ((k - 1 : Nat) : Int) := by omega
          have hw3 : (0 : Int) ≤ ((k - 1 : Nat) : Int) := by omega
          have hw4 : ((k - 1 : Nat) : Int) < l.length := by omega
          have hw5 : (((k - 1 : Nat) : Int)).toNat = k - 1 := by omega
          clear hp0
          by_cases hyx : xt ≤ yt
          · have b5 : decide (xt ≤ yt) = true := decide_eq_true hyx
            have hR2 : revs t (prevT l k) (l.drop k) = none := by rw [drop_at HX.out, HPr.out]; exact revs_bad (Or.inl (by simpa using hyx))
            have HR2 := Lib.hid hR2
            clear hyx hR2
            refine start_ (n := 21) (S := fun w' => w'.cell? ⟨wr.heap.size, 0, none⟩ = some (.int .i64 xi) ∧ w'.cell? ⟨wr.heap.size, 1, none⟩ = some (.int .i64 xg) ∧ w'.cell? ⟨wr.heap.size, 2, none⟩ = some (.int .i64 xt) ∧ w'.cell? ⟨wr.heap.size, 3, none⟩ = some (.bool xn) ∧ w'.cell? ⟨wr.heap.size, 4, none⟩ = some (.int .i64 xk) ∧ w'.cell? ⟨wr.heap.size, 5, none⟩ = some (.int .i64 xd) ∧ w'.cell? ⟨(ad.add ((k - 1) * 6)).block, (ad.add ((k - 1) * 6)).off + 2, none⟩ = some (.int .i64 yt)) (ds := []) #[false, false, false, false, false, false, false, false, false, false, false, false, false, false, false, false, false, false, false, false, false] (by kernel_rfl) rfl rfl ⟨HXc.out.cell (j := 0) rfl, HXc.out.cell (j := 1) rfl, HXc.out.cell (j := 2) rfl, HXc.out.cell (j := 3) rfl, HXc.out.cell (j := 4) rfl, HXc.out.cell (j := 5) rfl, y2⟩ (fun hHeld => ?_); refine with_tabW tab16_16 bits16_16 (fun HT_ HW_ => ?_)
            generalize wa.drew = wd at HXc HTb HBb HOb y2 hHeld ⊢
            refine pure_ (i := 0) (N := some 83) (v := ?_) (a' := ?_) #[true, false, false, false, false, false, false, false, false, false, false, false, false, false, false, false, false, false, false, false, false] rfl rfl (any_of HT_.out (by kernel_rfl)) (fun _ _ _ h => h) (Or.inl ⟨by rfl, ?_⟩) ?_ ?_
            rotate_left
            · intro w'
              go_simp
              with_reducible rfl
            rotate_left
            · simp only [Act.put, List.setIfInBounds_toArray, List.set_cons_zero, List.set_cons_succ]
              rfl
            refine pure_ (i := 1) (N := some 84) (v := ?_) (a' := ?_) #[true, true, false, false, false, false, false, false, false, false, false, false, false, false, false, false, false, false, false, false, false] rfl rfl (any_of HT_.out (by kernel_rfl)) (fun _ _ _ h => h) (Or.inl ⟨by rfl, ?_⟩) ?_ ?_
            rotate_left
            · intro w'
              go_simp
              with_reducible rfl
            rotate_left
            · simp only [Act.put, List.setIfInBounds_toArray, List.set_cons_zero, List.set_cons_succ]
              rfl
            refine pure_ (i := 2) (N := some 85) (v := ?_) (a' := ?_) #[true, true, true, false, false, false, false, false, false, false, false, false, false, false, false, false, false, false, false, false, false] rfl rfl (any_of HT_.out (by kernel_rfl)) (fun _ _ _ h => h) (Or.inl ⟨by rfl, ?_⟩) ?_ ?_
            rotate_left
            · intro w'
              go_simp
              with_reducible rfl
            rotate_left
            · simp only [Act.put, List.setIfInBounds_toArray, List.set_cons_zero, List.set_cons_succ]
              rfl
            refine pure_ (i := 3) (N := some 86) (v := ?_) (a' := ?_) #[true, true, true, true, false, false, false, false, false, false, false, false, false, false, false, false, false, false, false, false, false] rfl rfl (any_of HT_.out (by kernel_rfl)) (fun _ _ _ h => h) (Or.inl ⟨by rfl, ?_⟩) ?_ ?_
            rotate_left
            · intro w'
              go_simp
              with_reducible rfl
            rotate_left
            · simp only [Act.put, List.setIfInBounds_toArray, List.set_cons_zero, List.set_cons_succ]
              rfl
            refine pure_ (i := 4) (N := some 87) (v := ?_) (a' := ?_) #[true, true, true, true, true, false, false, false, false, false, false, false, false, false, false, false, false, false, false, false, false] rfl rfl (any_of HT_.out (by kernel_rfl)) (fun _ _ _ h => h) (Or.inl ⟨by rfl, ?_⟩) ?_ ?_
            rotate_left
            · intro w'
              go_simp
              with_reducible rfl
            rotate_left
            · simp only [Act.put, List.setIfInBounds_toArray, List.set_cons_zero, List.set_cons_succ]
              rfl
            refine pure_ (i := 5) (N := some 88) (v := ?_) (a' := ?_) #[true, true, true, true, true, true, false, false, false, false, false, false, false, false, false, false, false, false, false, false, false] rfl rfl (any_of HT_.out (by kernel_rfl)) (fun _ _ _ h => h) (Or.inl ⟨by rfl, ?_⟩) ?_ ?_
            rotate_left
            · intro w'
              go_simp
              with_reducible rfl
            rotate_left
            · simp only [Act.put, List.setIfInBounds_toArray, List.set_cons_zero, List.set_cons_succ]
              rfl
            refine pure_ (i := 6) (N := some 89) (v := ?_) (a' := ?_) #[true, true, true, true, true, true, true, false, false, false, false, false, false, false, false, false, false, false, false, false, false] rfl rfl (any_of HT_.out (by kernel_rfl)) (fun _ _ _ h => h) (Or.inl ⟨by rfl, ?_⟩) ?_ ?_
            rotate_left
            · intro w'
              go_simp
              with_reducible rfl
            rotate_left
            · simp only [Act.put, List.setIfInBounds_toArray, List.set_cons_zero, List.set_cons_succ]
              rfl
            refine pure_ (i := 7) (N := some 90) (v := ?_) (a' := ?_) #[true, true, true, true, true, true, true, true, false, false, false, false, false, false, false, false, false, false, false, false, false] rfl rfl (any_of HT_.out (by kernel_rfl)) (fun _ _ _ h => h) (Or.inl ⟨by rfl, ?_⟩) ?_ ?_
            rotate_left
            · intro w'
              go_simp
              with_reducible rfl
            rotate_left
            · simp only [Act.put, List.setIfInBounds_toArray, List.set_cons_zero, List.set_cons_succ]
              rfl
            refine pure_ (i := 8) (N := some 91) (v := ?_) (a' := ?_) #[true, true, true, true, true, true, true, true, true, false, false, false, false, false, false, false, false, false, false, false, false] rfl rfl (any_of HT_.out (by kernel_rfl)) (fun _ _ _ h => h) (Or.inl ⟨by rfl, ?_⟩) ?_ ?_
            rotate_left
            · intro w'
              go_simp
              with_reducible rfl
            rotate_left
            · simp only [Act.put, List.setIfInBounds_toArray, List.set_cons_zero, List.set_cons_succ]
              rfl
            refine pure_ (i := 10) (N := some 93) (v := ?_) (a' := ?_) #[true, true, true, true, true, true, true, true, true, false, true, false, false, false, false, false, false, false, false, false, false] rfl rfl (any_of HT_.out (by kernel_rfl)) (fun _ _ _ h => h) (Or.inl ⟨by rfl, ?_⟩) ?_ ?_
            rotate_left
            · intro w'
              go_simp
              with_reducible rfl
            rotate_left
            · simp only [Act.put, List.setIfInBounds_toArray, List.set_cons_zero, List.set_cons_succ]
              rfl
            refine pure_ (i := 11) (N := some 94) (v := ?_) (a' := ?_) #[true, true, true, true, true, true, true, true, true, false, true, true, false, false, false, false, false, false, false, false, false] rfl rfl (any_of HT_.out (by kernel_rfl)) (fun _ _ _ h => h) (Or.inl ⟨by rfl, ?_⟩) ?_ ?_
            rotate_left
            · intro w'
              go_simp
              with_reducible rfl
            rotate_left
            · simp only [Act.put, List.setIfInBounds_toArray, List.set_cons_zero, List.set_cons_succ]
              rfl
            refine take_ (i := 9) (N := some 92) (v := ?_) (a' := ?_) #[true, true, true, true, true, true, true, true, true, true, true, true, false, false, false, false, false, false, false, false, false] rfl rfl (take_ofW HT_.out HW_.out (by kernel_rfl)) (fun _ _ _ h => h) (Or.inl ⟨by rfl, ?_⟩) hHeld ?_ ?_
            rotate_left
            · rintro w' ⟨s0, s1, s2, s3, s4, s5, s6⟩
              go_simp
              with_reducible rfl
            rotate_left
            · simp only [Act.put, List.setIfInBounds_toArray, List.set_cons_zero, List.set_cons_succ]
              rfl
            refine take_ (i := 12) (N := some 95) (v := ?_) (a' := ?_) #[true, true, true, true, true, true, true, true, true, true, true, true, true, false, false, false, false, false, false, false, false] rfl rfl (take_ofW HT_.out HW_.out (by kernel_rfl)) (fun _ _ _ h => h) (Or.inl ⟨by rfl, ?_⟩) hHeld ?_ ?_
            rotate_left
            · rintro w' ⟨s0, s1, s2, s3, s4, s5, s6⟩
              go_simp
              with_reducible rfl
            rotate_left
            · simp only [Act.put, List.setIfInBounds_toArray, List.set_cons_zero, List.set_cons_succ]
              rfl
            refine pure_ (i := 13) (N := some 96) (v := ?_) (a' := ?_) #[true, true, true, true, true, true, true, true, true, true, true, true, true, true, false, false, false, false, false, false, false] rfl rfl (any_of HT_.out (by kernel_rfl)) (fun _ _ _ h => h) (Or.inl ⟨by rfl, ?_⟩) ?_ ?_
            rotate_left
            · intro w'
              go_simp
              with_reducible rfl
            rotate_left
            · simp only [Act.put, List.setIfInBounds_toArray, List.set_cons_zero, List.set_cons_succ]
              rfl
            refine pure_ (i := 14) (N := some 97) (v := ?_) (a' := ?_) #[true, true, true, true, true, true, true, true, true, true, true, true, true, true, true, false, false, false, false, false, false] rfl rfl (any_of HT_.out (by kernel_rfl)) (fun _ _ _ h => h) (Or.inl ⟨by rfl, ?_⟩) ?_ ?_
            rotate_left
            · intro w'
              go_simp
              with_reducible rfl
            rotate_left
            · simp only [Act.put, List.setIfInBounds_toArray, List.set_cons_zero, List.set_cons_succ]
              rfl
            refine pure_ (i := 15) (N := some 98) (v := ?_) (a' := ?_) #[true, true, true, true, true, true, true, true, true, true, true, true, true, true, true, true, false, false, false, false, false] rfl rfl (any_of HT_.out (by kernel_rfl)) (fun _ _ _ h => h) (Or.inl ⟨by rfl, ?_⟩) ?_ ?_
            rotate_left
            · intro w'
              go_simp
              with_reducible rfl
            rotate_left
            · simp only [Act.put, List.setIfInBounds_toArray, List.set_cons_zero, List.set_cons_succ]
              rfl
            refine pure_ (i := 16) (N := some 99) (v := undef) (a' := ?_) #[true, true, true, true, true, true, true, true, true, true, true, true, true, true, true, true, true, false, false, false, false] rfl rfl (any_of HT_.out (by kernel_rfl)) (fun _ _ _ h => h) (Or.inr ⟨by rfl, rfl⟩) ?_ ?_
            rotate_left
            · simp only [Act.put, List.setIfInBounds_toArray, List.set_cons_zero, List.set_cons_succ]
              rfl
            refine pure_ (i := 17) (N := some 100) (v := undef) (a' := ?_) #[true, true, true, true, true, true, true, true, true, true, true, true, true, true, true, true, true, true, false, false, false] rfl rfl (any_of HT_.out (by kernel_rfl)) (fun _ _ _ h => h) (Or.inr ⟨by rfl, rfl⟩) ?_ ?_
            rotate_left
            · simp only [Act.put, List.setIfInBounds_toArray, List.set_cons_zero, List.set_cons_succ]
              rfl
            refine pure_ (i := 18) (N := some 101) (v := undef) (a' := ?_) #[true, true, true, true, true, true, true, true, true, true, true, true, true, true, true, true, true, true, true, false, false] rfl rfl (any_of HT_.out (by kernel_rfl)) (fun _ _ _ h => h) (Or.inr ⟨by rfl, rfl⟩) ?_ ?_
            rotate_left
            · simp only [Act.put, List.setIfInBounds_toArray, List.set_cons_zero, List.set_cons_succ]
              rfl
            refine pure_ (i := 19) (N := some 102) (v := undef) (a' := ?_) #[true, true, true, true, true, true, true, true, true, true, true, true, true, true, true, true, true, true, true, true, false] rfl rfl (any_of HT_.out (by kernel_rfl)) (fun _ _ _ h => h) (Or.inr ⟨by rfl, rfl⟩) ?_ ?_
            rotate_left
            · simp only [Act.put, List.setIfInBounds_toArray, List.set_cons_zero, List.set_cons_succ]
              rfl
            refine pure_ (i := 20) (N := some 103) (v := ?_) (a' := ?_) #[true, true, true, true, true, true, true, true, true, true, true, true, true, true, true, true, true, true, true, true, true] rfl rfl (any_of HT_.out (by kernel_rfl)) (fun _ _ _ h => h) (Or.inl ⟨by rfl, ?_⟩) ?_ ?_
            rotate_left
            · intro w'
              go_simp
              with_reducible rfl
            rotate_left
            · simp only [Act.put, List.setIfInBounds_toArray, List.set_cons_zero, List.set_cons_succ]
              rfl
            refine done_ (done_of HT_.out (by kernel_rfl)) ?_
            clear hHeld HT_ HW_
            go_wp2_with fail
            go_ret2
            exact ⟨HBb.out, Or.inl ⟨HMk.out.trans (HRv.out.trans HR2.out), rfl⟩⟩
          · have b5 : decide (xt ≤ yt) = false := decide_eq_false hyx
            have Hyx := Lib.hid hyx
            clear hyx
            refine start_ (n := 21) (S := fun w' => w'.cell? ⟨wr.heap.size, 0, none⟩ = some (.int .i64 xi) ∧ w'.cell? ⟨wr.heap.size, 1, none⟩ = some (.int .i64 xg) ∧ w'.cell? ⟨wr.heap.size, 2, none⟩ = some (.int .i64 xt) ∧ w'.cell? ⟨wr.heap.size, 3, none⟩ = some (.bool xn) ∧ w'.cell? ⟨wr.heap.size, 4, none⟩ = some (.int .i64 xk) ∧ w'.cell? ⟨wr.heap.size, 5, none⟩ = some (.int .i64 xd) ∧ w'.cell? ⟨(ad.add ((k - 1) * 6)).block, (ad.add ((k - 1) * 6)).off + 2, none⟩ = some (.int .i64 yt)) (ds := []) #[false, false, false, false, false, false, false, false, false, false, false, false, false, false, false, false, false, false, false, false, false] (by kernel_rfl) rfl rfl ⟨HXc.out.cell (j := 0) rfl, HXc.out.cell (j := 1) rfl, HXc.out.cell (j := 2) rfl, HXc.out.cell (j := 3) rfl, HXc.out.cell (j := 4) rfl, HXc.out.cell (j := 5) rfl, y2⟩ (fun hHeld => ?_); refine with_tabW tab16_16 bits16_16 (fun HT_ HW_ => ?_)
            generalize wa.drew = wd at HXc HTb HBb HOb y2 hHeld ⊢
            refine pure_ (i := 0) (N := some 83) (v := ?_) (a' := ?_) #[true, false, false, false, false, false, false, false, false, false, false, false, false, false, false, false, false, false, false, false, false] rfl rfl (any_of HT_.out (by kernel_rfl)) (fun _ _ _ h => h) (Or.inl ⟨by rfl, ?_⟩) ?_ ?_
            rotate_left
            · intro w'
              go_simp
              with_reducible rfl
            rotate_left
            · simp only [Act.put, List.setIfInBounds_toArray, List.set_cons_zero, List.set_cons_succ]
              rfl
            refine pure_ (i := 1) (N := some 84) (v := ?_) (a' := ?_) #[true, true, false, false, false, false, false, false, false, false, false, false, false, false, false, false, false, false, false, false, false] rfl rfl (any_of HT_.out (by kernel_rfl)) (fun _ _ _ h => h) (Or.inl ⟨by rfl, ?_⟩) ?_ ?_
            rotate_left
            · intro w'
              go_simp
              with_reducible rfl
            rotate_left
            · simp only [Act.put, List.setIfInBounds_toArray, List.set_cons_zero, List.set_cons_succ]
              rfl
            refine pure_ (i := 2) (N := some 85) (v := ?_) (a' := ?_) #[true, true, true, false, false, false, false, false, false, false, false, false, false, false, false, false, false, false, false, false, false] rfl rfl (any_of HT_.out (by kernel_rfl)) (fun _ _ _ h => h) (Or.inl ⟨by rfl, ?_⟩) ?_ ?_
            rotate_left
            · intro w'
              go_simp
              with_reducible rfl
            rotate_left
            · simp only [Act.put, List.setIfInBounds_toArray, List.set_cons_zero, List.set_cons_succ]
              rfl
            refine pure_ (i := 3) (N := some 86) (v := ?_) (a' := ?_) #[true, true, true, true, false, false, false, false, false, false, false, false, false, false, false, false, false, false, false, false, false] rfl rfl (any_of HT_.out (by kernel_rfl)) (fun _ _ _ h => h) (Or.inl ⟨by rfl, ?_⟩) ?_ ?_
            rotate_left
            · intro w'
              go_simp
              with_reducible rfl
            rotate_left
            · simp only [Act.put, List.setIfInBounds_toArray, List.set_cons_zero, List.set_cons_succ]
              rfl
            refine pure_ (i := 4) (N := some 87) (v := ?_) (a' := ?_) #[true, true, true, true, true, false, false, false, false, false, false, false, false, false, false, false, false, false, false, false, false] rfl rfl (any_of HT_.out (by kernel_rfl)) (fun _ _ _ h => h) (Or.inl ⟨by rfl, ?_⟩) ?_ ?_
            rotate_left
            · intro w'
              go_simp
              with_reducible rfl
            rotate_left
            · simp only [Act.put, List.setIfInBounds_toArray, List.set_cons_zero, List.set_cons_succ]
              rfl
            refine pure_ (i := 5) (N := some 88) (v := ?_) (a' := ?_) #[true, true, true, true, true, true, false, false, false, false, false, false, false, false, false, false, false, false, false, false, false] rfl rfl (any_of HT_.out (by kernel_rfl)) (fun _ _ _ h => h) (Or.inl ⟨by rfl, ?_⟩) ?_ ?_
            rotate_left
            · intro w'
              go_simp
              with_reducible rfl
            rotate_left
            · simp only [Act.put, List.setIfInBounds_toArray, List.set_cons_zero, List.set_cons_succ]
              rfl
            refine pure_ (i := 6) (N := some 89) (v := ?_) (a' := ?_) #[true, true, true, true, true, true, true, false, false, false, false, false, false, false, false, false, false, false, false, false, false] rfl rfl (any_of HT_.out (by kernel_rfl)) (fun _ _ _ h => h) (Or.inl ⟨by rfl, ?_⟩) ?_ ?_
            rotate_left
            · intro w'
              go_simp
              with_reducible rfl
            rotate_left
            · simp only [Act.put, List.setIfInBounds_toArray, List.set_cons_zero, List.set_cons_succ]
              rfl
            refine pure_ (i := 7) (N := some 90) (v := ?_) (a' := ?_) #[true, true, true, true, true, true, true, true, false, false, false, false, false, false, false, false, false, false, false, false, false] rfl rfl (any_of HT_.out (by kernel_rfl)) (fun _ _ _ h => h) (Or.inl ⟨by rfl, ?_⟩) ?_ ?_
            rotate_left
            · intro w'
              go_simp
              with_reducible rfl
            rotate_left
            · simp only [Act.put, List.setIfInBounds_toArray, List.set_cons_zero, List.set_cons_succ]
              rfl
            refine pure_ (i := 8) (N := some 91) (v := ?_) (a' := ?_) #[true, true, true, true, true, true, true, true, true, false, false, false, false, false, false, false, false, false, false, false, false] rfl rfl (any_of HT_.out (by kernel_rfl)) (fun _ _ _ h => h) (Or.inl ⟨by rfl, ?_⟩) ?_ ?_
            rotate_left
            · intro w'
              go_simp
              with_reducible rfl
            rotate_left
            · simp only [Act.put, List.setIfInBounds_toArray, List.set_cons_zero, List.set_cons_succ]
              rfl
            refine pure_ (i := 10) (N := some 93) (v := ?_) (a' := ?_) #[true, true, true, true, true, true, true, true, true, false, true, false, false, false, false, false, false, false, false, false, false] rfl rfl (any_of HT_.out (by kernel_rfl)) (fun _ _ _ h => h) (Or.inl ⟨by rfl, ?_⟩) ?_ ?_
            rotate_left
            · intro w'
              go_simp
              with_reducible rfl
            rotate_left
            · simp only [Act.put, List.setIfInBounds_toArray, List.set_cons_zero, List.set_cons_succ]
              rfl
            refine pure_ (i := 11) (N := some 94) (v := ?_) (a' := ?_) #[true, true, true, true, true, true, true, true, true, false, true, true, false, false, false, false, false, false, false, false, false] rfl rfl (any_of HT_.out (by kernel_rfl)) (fun _ _ _ h => h) (Or.inl ⟨by rfl, ?_⟩) ?_ ?_
            rotate_left
            · intro w'
              go_simp
              with_reducible rfl
            rotate_left
            · simp only [Act.put, List.setIfInBounds_toArray, List.set_cons_zero, List.set_cons_succ]
              rfl
            refine take_ (i := 9) (N := some 92) (v := ?_) (a' := ?_) #[true, true, true, true, true, true, true, true, true, true, true, true, false, false, false, false, false, false, false, false, false] rfl rfl (take_ofW HT_.out HW_.out (by kernel_rfl)) (fun _ _ _ h => h) (Or.inl ⟨by rfl, ?_⟩) hHeld ?_ ?_
            rotate_left
            · rintro w' ⟨s0, s1, s2, s3, s4, s5, s6⟩
              go_simp
              with_reducible rfl
            rotate_left
            · simp only [Act.put, List.setIfInBounds_toArray, List.set_cons_zero, List.set_cons_succ]
              rfl
            refine take_ (i := 12) (N := some 95) (v := ?_) (a' := ?_) #[true, true, true, true, true, true, true, true, true, true, true, true, true, false, false, false, false, false, false, false, false] rfl rfl (take_ofW HT_.out HW_.out (by kernel_rfl)) (fun _ _ _ h => h) (Or.inl ⟨by rfl, ?_⟩) hHeld ?_ ?_
            rotate_left
            · rintro w' ⟨s0, s1, s2, s3, s4, s5, s6⟩
              go_simp
              with_reducible rfl
            rotate_left
            · simp only [Act.put, List.setIfInBounds_toArray, List.set_cons_zero, List.set_cons_succ]
              rfl
            refine pure_ (i := 13) (N := some 96) (v := ?_) (a' := ?_) #[true, true, true, true, true, true, true, true, true, true, true, true, true, true, false, false, false, false, false, false, false] rfl rfl (any_of HT_.out (by kernel_rfl)) (fun _ _ _ h => h) (Or.inl ⟨by rfl, ?_⟩) ?_ ?_
            rotate_left
            · intro w'
              go_simp
              with_reducible rfl
            rotate_left
            · simp only [Act.put, List.setIfInBounds_toArray, List.set_cons_zero, List.set_cons_succ]
              rfl
            refine pure_ (i := 14) (N := some 97) (v := ?_) (a' := ?_) #[true, true, true, true, true, true, true, true, true, true, true, true, true, true, true, false, false, false, false, false, false] rfl rfl (any_of HT_.out (by kernel_rfl)) (fun _ _ _ h => h) (Or.inl ⟨by rfl, ?_⟩) ?_ ?_
            rotate_left
            · intro w'
              go_simp
              with_reducible rfl
            rotate_left
            · simp only [Act.put, List.setIfInBounds_toArray, List.set_cons_zero, List.set_cons_succ]
              rfl
            refine pure_ (i := 15) (N := some 98) (v := ?_) (a' := ?_) #[true, true, true, true, true, true, true, true, true, true, true, true, true, true, true, true, false, false, false, false, false] rfl rfl (any_of HT_.out (by kernel_rfl)) (fun _ _ _ h => h) (Or.inl ⟨by rfl, ?_⟩) ?_ ?_
            rotate_left
            · intro w'
              go_simp
              with_reducible rfl
            rotate_left
            · simp only [Act.put, List.setIfInBounds_toArray, List.set_cons_zero, List.set_cons_succ]
              rfl
            refine pure_ (i := 16) (N := some 99) (v := ?_) (a' := ?_) #[true, true, true, true, true, true, true, true, true, true, true, true, true, true, true, true, true, false, false, false, false] rfl rfl (any_of HT_.out (by kernel_rfl)) (fun _ _ _ h => h) (Or.inl ⟨by rfl, ?_⟩) ?_ ?_
            rotate_left
            · intro w'
              go_simp
              with_reducible rfl
            rotate_left
            · simp only [Act.put, List.setIfInBounds_toArray, List.set_cons_zero, List.set_cons_succ]
              rfl
            refine take_ (i := 17) (N := some 100) (v := ?_) (a' := ?_) #[true, true, true, true, true, true, true, true, true, true, true, true, true, true, true, true, true, true, false, false, false] rfl rfl (take_ofW HT_.out HW_.out (by kernel_rfl)) (fun _ _ _ h => h) (Or.inl ⟨by rfl, ?_⟩) hHeld ?_ ?_
            rotate_left
            · rintro w' ⟨s0, s1, s2, s3, s4, s5, s6⟩
              go_simp
              with_reducible rfl
            rotate_left
            · simp only [Act.put, List.setIfInBounds_toArray, List.set_cons_zero, List.set_cons_succ]
              rfl
            refine one_ (i := 18) (N := some 101) #[true, true, true, true, true, true, true, true, true, true, true, true, true, true, true, true, true, true, true, false, false] rfl rfl (one_of HT_.out (by kernel_rfl)) (by decide) (fun K hK => ?_)
            refine goes_ Try.func13 (by kernel_rfl) rfl #[.pointer (some ⟨w.heap.size + 1, 0, none⟩), .agg #[.int .i64 xi, .int .i64 xg, .int .i64 xt, .bool xn, .int .i64 xk, .int .i64 xd]] (by rfl) rfl rfl (by (try simp only [List.map_toArray, List.map_cons, List.map_nil]); first | done | rfl) ?_
            refine (reviveAt HTb.out ⟨⟨xi, xg⟩, ⟨xt, xn, xk, xd⟩⟩ HFx.out).mono ?_
            rintro e w4 ⟨rfl, ht4, hc4⟩
            refine ⟨_, rfl, ?_⟩
            have HTc := Lib.hid ht4
            have HCc := Lib.hid hc4
            have HXn := Lib.hid (HXc.out.keep hc4 (fun ho => by have := (HOlt.out _ ho); omega))
            clear ht4 hc4
            obtain ⟨ad2, hA2, q0, q1, y3, q3, q4, q5⟩ := row_at (Kd.C_below H2.out (Chg.onto HBb.out HCc.out (Nat.le_refl _) (fun j hj h => by have := (HOb.out j h).1; omega))) HY.out
            cases hA2
            clear q0 q1 q3 q4 q5
            dsimp only at y3
            refine hK.out _ _ ⟨HXn.out.cell (j := 0) rfl, HXn.out.cell (j := 1) rfl, HXn.out.cell (j := 2) rfl, HXn.out.cell (j := 3) rfl, HXn.out.cell (j := 4) rfl, HXn.out.cell (j := 5) rfl, y3⟩ (fun hNew => ?_)
            clear hK K hHeld
            have hHeld := hNew
            clear hNew
            refine norm_ (a' := ?_) ?_ ?_
            rotate_left
            · show Act.put _ (some 101) _ = _
              simp only [Act.put, List.setIfInBounds_toArray, List.set_cons_zero, List.set_cons_succ]
              rfl
            refine pure_ (i := 19) (N := some 102) (v := ?_) (a' := ?_) #[true, true, true, true, true, true, true, true, true, true, true, true, true, true, true, true, true, true, true, true, false] rfl rfl (any_of HT_.out (by kernel_rfl)) (fun _ _ _ h => h) (Or.inl ⟨by rfl, ?_⟩) ?_ ?_
            rotate_left
            · intro w'
              go_simp
              with_reducible rfl
            rotate_left
            · simp only [Act.put, List.setIfInBounds_toArray, List.set_cons_zero, List.set_cons_succ]
              rfl
            refine pure_ (i := 20) (N := some 103) (v := ?_) (a' := ?_) #[true, true, true, true, true, true, true, true, true, true, true, true, true, true, true, true, true, true, true, true, true] rfl rfl (any_of HT_.out (by kernel_rfl)) (fun _ _ _ h => h) (Or.inl ⟨by rfl, ?_⟩) ?_ ?_
            rotate_left
            · intro w'
              go_simp
              with_reducible rfl
            rotate_left
            · simp only [Act.put, List.setIfInBounds_toArray, List.set_cons_zero, List.set_cons_succ]
              rfl
            refine done_ (done_of HT_.out (by kernel_rfl)) ?_
            clear hHeld HT_ HW_ y2 y3
            by_cases hE : reviveE t ⟨⟨xi, xg⟩, ⟨xt, xn, xk, xd⟩⟩ = 0
            · have t7 : (reviveE t ⟨⟨xi, xg⟩, ⟨xt, xn, xk, xd⟩⟩ == 0) = true := beq_iff_eq.2 hE
              have hR2 : revs t (prevT l k) (l.drop k) = revs (reviveT t ⟨⟨xi, xg⟩, ⟨xt, xn, xk, xd⟩⟩) (prevT l (k + 1)) (l.drop (k + 1)) := by rw [drop_at HX.out, prevT_succ HX.out]; exact revs_ok (by rw [HPr.out]; simp; exact (by have := Hyx.out; omega)) hE
              have HR2 := Lib.hid hR2
              have HB4 := Lib.hid (Chg.onto HBb.out HCc.out (Nat.le_refl _) (fun j hj h => by have := (HOb.out j h).1; omega))
              clear hE hR2
              generalize reviveE t ⟨⟨xi, xg⟩, ⟨xt, xn, xk, xd⟩⟩ = E at *
              go_wp2_with fail
              go_roundw
              case rel => exact ⟨k + 1, _, O, by omega, by go_num, HRv.out.trans HR2.out, HTc.out, fun j hj => ⟨(HOb.out j hj).1, Nat.lt_of_lt_of_le (HOb.out j hj).2 HCc.out.size⟩, HB4.out⟩
              case measure => simp [intOf]; omega
            · have t7 : (reviveE t ⟨⟨xi, xg⟩, ⟨xt, xn, xk, xd⟩⟩ == 0) = false := beq_eq_false_iff_ne.2 hE
              have hR2 : revs t (prevT l k) (l.drop k) = none := by rw [drop_at HX.out]; exact revs_bad (Or.inr hE)
              have HR2 := Lib.hid hR2
              have HB4 := Lib.hid (Chg.onto HBb.out HCc.out (Nat.le_refl _) (fun j hj h => by have := (HOb.out j h).1; omega))
              clear hE hR2
              generalize reviveE t ⟨⟨xi, xg⟩, ⟨xt, xn, xk, xd⟩⟩ = E at *
              go_wp2_with fail
              go_ret2
              exact ⟨HB4.out, Or.inl ⟨HMk.out.trans (HRv.out.trans HR2.out), rfl⟩⟩
        · have HOlt := HOl0
          have b4 : decide ((0 : Int) < k) = false := decide_eq_false (by omega)
          have b6 : decide (0 < k) = false := decide_eq_false (by omega)
          have HK0 : Hid (k = 0) := Lib.hid (by omega)
          clear hp0
          refine start_ (n := 21) (S := fun w' => w'.cell? ⟨wr.heap.size, 0, none⟩ = some (.int .i64 xi) ∧ w'.cell? ⟨wr.heap.size, 1, none⟩ = some (.int .i64 xg) ∧ w'.cell? ⟨wr.heap.size, 2, none⟩ = some (.int .i64 xt) ∧ w'.cell? ⟨wr.heap.size, 3, none⟩ = some (.bool xn) ∧ w'.cell? ⟨wr.heap.size, 4, none⟩ = some (.int .i64 xk) ∧ w'.cell? ⟨wr.heap.size, 5, none⟩ = some (.int .i64 xd)) (ds := []) #[false, false, false, false, false, false, false, false, false, false, false, false, false, false, false, false, false, false, false, false, false] (by kernel_rfl) rfl rfl ⟨HXc.out.cell (j := 0) rfl, HXc.out.cell (j := 1) rfl, HXc.out.cell (j := 2) rfl, HXc.out.cell (j := 3) rfl, HXc.out.cell (j := 4) rfl, HXc.out.cell (j := 5) rfl⟩ (fun hHeld => ?_); refine with_tabW tab16_16 bits16_16 (fun HT_ HW_ => ?_)
          generalize wa.drew = wd at HXc HTb HBb HOb hHeld ⊢
          refine pure_ (i := 0) (N := some 83) (v := ?_) (a' := ?_) #[true, false, false, false, false, false, false, false, false, false, false, false, false, false, false, false, false, false, false, false, false] rfl rfl (any_of HT_.out (by kernel_rfl)) (fun _ _ _ h => h) (Or.inl ⟨by rfl, ?_⟩) ?_ ?_
          rotate_left
          · intro w'
            go_simp
            with_reducible rfl
          rotate_left
          · simp only [Act.put, List.setIfInBounds_toArray, List.set_cons_zero, List.set_cons_succ]
            rfl
          refine pure_ (i := 1) (N := some 84) (v := ?_) (a' := ?_) #[true, true, false, false, false, false, false, false, false, false, false, false, false, false, false, false, false, false, false, false, false] rfl rfl (any_of HT_.out (by kernel_rfl)) (fun _ _ _ h => h) (Or.inl ⟨by rfl, ?_⟩) ?_ ?_
          rotate_left
          · intro w'
            go_simp
            with_reducible rfl
          rotate_left
          · simp only [Act.put, List.setIfInBounds_toArray, List.set_cons_zero, List.set_cons_succ]
            rfl
          refine pure_ (i := 2) (N := some 85) (v := ?_) (a' := ?_) #[true, true, true, false, false, false, false, false, false, false, false, false, false, false, false, false, false, false, false, false, false] rfl rfl (any_of HT_.out (by kernel_rfl)) (fun _ _ _ h => h) (Or.inl ⟨by rfl, ?_⟩) ?_ ?_
          rotate_left
          · intro w'
            go_simp
            with_reducible rfl
          rotate_left
          · simp only [Act.put, List.setIfInBounds_toArray, List.set_cons_zero, List.set_cons_succ]
            rfl
          refine pure_ (i := 3) (N := some 86) (v := undef) (a' := ?_) #[true, true, true, true, false, false, false, false, false, false, false, false, false, false, false, false, false, false, false, false, false] rfl rfl (any_of HT_.out (by kernel_rfl)) (fun _ _ _ h => h) (Or.inr ⟨by rfl, rfl⟩) ?_ ?_
          rotate_left
          · simp only [Act.put, List.setIfInBounds_toArray, List.set_cons_zero, List.set_cons_succ]
            rfl
          refine pure_ (i := 4) (N := some 87) (v := undef) (a' := ?_) #[true, true, true, true, true, false, false, false, false, false, false, false, false, false, false, false, false, false, false, false, false] rfl rfl (any_of HT_.out (by kernel_rfl)) (fun _ _ _ h => h) (Or.inr ⟨by rfl, rfl⟩) ?_ ?_
          rotate_left
          · simp only [Act.put, List.setIfInBounds_toArray, List.set_cons_zero, List.set_cons_succ]
            rfl
          refine pure_ (i := 5) (N := some 88) (v := undef) (a' := ?_) #[true, true, true, true, true, true, false, false, false, false, false, false, false, false, false, false, false, false, false, false, false] rfl rfl (any_of HT_.out (by kernel_rfl)) (fun _ _ _ h => h) (Or.inr ⟨by rfl, rfl⟩) ?_ ?_
          rotate_left
          · simp only [Act.put, List.setIfInBounds_toArray, List.set_cons_zero, List.set_cons_succ]
            rfl
          refine pure_ (i := 6) (N := some 89) (v := undef) (a' := ?_) #[true, true, true, true, true, true, true, false, false, false, false, false, false, false, false, false, false, false, false, false, false] rfl rfl (any_of HT_.out (by kernel_rfl)) (fun _ _ _ h => h) (Or.inr ⟨by rfl, rfl⟩) ?_ ?_
          rotate_left
          · simp only [Act.put, List.setIfInBounds_toArray, List.set_cons_zero, List.set_cons_succ]
            rfl
          refine pure_ (i := 7) (N := some 90) (v := undef) (a' := ?_) #[true, true, true, true, true, true, true, true, false, false, false, false, false, false, false, false, false, false, false, false, false] rfl rfl (any_of HT_.out (by kernel_rfl)) (fun _ _ _ h => h) (Or.inr ⟨by rfl, rfl⟩) ?_ ?_
          rotate_left
          · simp only [Act.put, List.setIfInBounds_toArray, List.set_cons_zero, List.set_cons_succ]
            rfl
          refine pure_ (i := 8) (N := some 91) (v := undef) (a' := ?_) #[true, true, true, true, true, true, true, true, true, false, false, false, false, false, false, false, false, false, false, false, false] rfl rfl (any_of HT_.out (by kernel_rfl)) (fun _ _ _ h => h) (Or.inr ⟨by rfl, rfl⟩) ?_ ?_
          rotate_left
          · simp only [Act.put, List.setIfInBounds_toArray, List.set_cons_zero, List.set_cons_succ]
            rfl
          refine pure_ (i := 10) (N := some 93) (v := undef) (a' := ?_) #[true, true, true, true, true, true, true, true, true, false, true, false, false, false, false, false, false, false, false, false, false] rfl rfl (any_of HT_.out (by kernel_rfl)) (fun _ _ _ h => h) (Or.inr ⟨by rfl, rfl⟩) ?_ ?_
          rotate_left
          · simp only [Act.put, List.setIfInBounds_toArray, List.set_cons_zero, List.set_cons_succ]
            rfl
          refine pure_ (i := 11) (N := some 94) (v := undef) (a' := ?_) #[true, true, true, true, true, true, true, true, true, false, true, true, false, false, false, false, false, false, false, false, false] rfl rfl (any_of HT_.out (by kernel_rfl)) (fun _ _ _ h => h) (Or.inr ⟨by rfl, rfl⟩) ?_ ?_
          rotate_left
          · simp only [Act.put, List.setIfInBounds_toArray, List.set_cons_zero, List.set_cons_succ]
            rfl
          refine pure_ (i := 9) (N := some 92) (v := undef) (a' := ?_) #[true, true, true, true, true, true, true, true, true, true, true, true, false, false, false, false, false, false, false, false, false] rfl rfl (any_of HT_.out (by kernel_rfl)) (fun _ _ _ h => h) (Or.inr ⟨by rfl, rfl⟩) ?_ ?_
          rotate_left
          · simp only [Act.put, List.setIfInBounds_toArray, List.set_cons_zero, List.set_cons_succ]
            rfl
          refine pure_ (i := 12) (N := some 95) (v := undef) (a' := ?_) #[true, true, true, true, true, true, true, true, true, true, true, true, true, false, false, false, false, false, false, false, false] rfl rfl (any_of HT_.out (by kernel_rfl)) (fun _ _ _ h => h) (Or.inr ⟨by rfl, rfl⟩) ?_ ?_
          rotate_left
          · simp only [Act.put, List.setIfInBounds_toArray, List.set_cons_zero, List.set_cons_succ]
            rfl
          refine pure_ (i := 13) (N := some 96) (v := undef) (a' := ?_) #[true, true, true, true, true, true, true, true, true, true, true, true, true, true, false, false, false, false, false, false, false] rfl rfl (any_of HT_.out (by kernel_rfl)) (fun _ _ _ h => h) (Or.inr ⟨by rfl, rfl⟩) ?_ ?_
          rotate_left
          · simp only [Act.put, List.setIfInBounds_toArray, List.set_cons_zero, List.set_cons_succ]
            rfl
          refine pure_ (i := 14) (N := some 97) (v := ?_) (a' := ?_) #[true, true, true, true, true, true, true, true, true, true, true, true, true, true, true, false, false, false, false, false, false] rfl rfl (any_of HT_.out (by kernel_rfl)) (fun _ _ _ h => h) (Or.inl ⟨by rfl, ?_⟩) ?_ ?_
          rotate_left
          · intro w'
            go_simp
            with_reducible rfl
          rotate_left
          · simp only [Act.put, List.setIfInBounds_toArray, List.set_cons_zero, List.set_cons_succ]
            rfl
          refine pure_ (i := 15) (N := some 98) (v := ?_) (a' := ?_) #[true, true, true, true, true, true, true, true, true, true, true, true, true, true, true, true, false, false, false, false, false] rfl rfl (any_of HT_.out (by kernel_rfl)) (fun _ _ _ h => h) (Or.inl ⟨by rfl, ?_⟩) ?_ ?_
          rotate_left
          · intro w'
            go_simp
            with_reducible rfl
          rotate_left
          · simp only [Act.put, List.setIfInBounds_toArray, List.set_cons_zero, List.set_cons_succ]
            rfl
          refine pure_ (i := 16) (N := some 99) (v := ?_) (a' := ?_) #[true, true, true, true, true, true, true, true, true, true, true, true, true, true, true, true, true, false, false, false, false] rfl rfl (any_of HT_.out (by kernel_rfl)) (fun _ _ _ h => h) (Or.inl ⟨by rfl, ?_⟩) ?_ ?_
          rotate_left
          · intro w'
            go_simp
            with_reducible rfl
          rotate_left
          · simp only [Act.put, List.setIfInBounds_toArray, List.set_cons_zero, List.set_cons_succ]
            rfl
          refine take_ (i := 17) (N := some 100) (v := ?_) (a' := ?_) #[true, true, true, true, true, true, true, true, true, true, true, true, true, true, true, true, true, true, false, false, false] rfl rfl (take_ofW HT_.out HW_.out (by kernel_rfl)) (fun _ _ _ h => h) (Or.inl ⟨by rfl, ?_⟩) hHeld ?_ ?_
          rotate_left
          · rintro w' ⟨s0, s1, s2, s3, s4, s5⟩
            go_simp
            with_reducible rfl
          rotate_left
          · simp only [Act.put, List.setIfInBounds_toArray, List.set_cons_zero, List.set_cons_succ]
            rfl
          refine one_ (i := 18) (N := some 101) #[true, true, true, true, true, true, true, true, true, true, true, true, true, true, true, true, true, true, true, false, false] rfl rfl (one_of HT_.out (by kernel_rfl)) (by decide) (fun K hK => ?_)
          refine goes_ Try.func13 (by kernel_rfl) rfl #[.pointer (some ⟨w.heap.size + 1, 0, none⟩), .agg #[.int .i64 xi, .int .i64 xg, .int .i64 xt, .bool xn, .int .i64 xk, .int .i64 xd]] (by rfl) rfl rfl (by (try simp only [List.map_toArray, List.map_cons, List.map_nil]); first | done | rfl) ?_
          refine (reviveAt HTb.out ⟨⟨xi, xg⟩, ⟨xt, xn, xk, xd⟩⟩ HFx.out).mono ?_
          rintro e w4 ⟨rfl, ht4, hc4⟩
          refine ⟨_, rfl, ?_⟩
          have HTc := Lib.hid ht4
          have HCc := Lib.hid hc4
          have HXn := Lib.hid (HXc.out.keep hc4 (fun ho => by have := (HOlt.out _ ho); omega))
          clear ht4 hc4
          refine hK.out _ _ ⟨HXn.out.cell (j := 0) rfl, HXn.out.cell (j := 1) rfl, HXn.out.cell (j := 2) rfl, HXn.out.cell (j := 3) rfl, HXn.out.cell (j := 4) rfl, HXn.out.cell (j := 5) rfl⟩ (fun hNew => ?_)
          clear hK K hHeld
          have hHeld := hNew
          clear hNew
          refine norm_ (a' := ?_) ?_ ?_
          rotate_left
          · show Act.put _ (some 101) _ = _
            simp only [Act.put, List.setIfInBounds_toArray, List.set_cons_zero, List.set_cons_succ]
            rfl
          refine pure_ (i := 19) (N := some 102) (v := ?_) (a' := ?_) #[true, true, true, true, true, true, true, true, true, true, true, true, true, true, true, true, true, true, true, true, false] rfl rfl (any_of HT_.out (by kernel_rfl)) (fun _ _ _ h => h) (Or.inl ⟨by rfl, ?_⟩) ?_ ?_
          rotate_left
          · intro w'
            go_simp
            with_reducible rfl
          rotate_left
          · simp only [Act.put, List.setIfInBounds_toArray, List.set_cons_zero, List.set_cons_succ]
            rfl
          refine pure_ (i := 20) (N := some 103) (v := ?_) (a' := ?_) #[true, true, true, true, true, true, true, true, true, true, true, true, true, true, true, true, true, true, true, true, true] rfl rfl (any_of HT_.out (by kernel_rfl)) (fun _ _ _ h => h) (Or.inl ⟨by rfl, ?_⟩) ?_ ?_
          rotate_left
          · intro w'
            go_simp
            with_reducible rfl
          rotate_left
          · simp only [Act.put, List.setIfInBounds_toArray, List.set_cons_zero, List.set_cons_succ]
            rfl
          refine done_ (done_of HT_.out (by kernel_rfl)) ?_
          clear hHeld HT_ HW_
          by_cases hE : reviveE t ⟨⟨xi, xg⟩, ⟨xt, xn, xk, xd⟩⟩ = 0
          · have t7 : (reviveE t ⟨⟨xi, xg⟩, ⟨xt, xn, xk, xd⟩⟩ == 0) = true := beq_iff_eq.2 hE
            have hR2 : revs t (prevT l k) (l.drop k) = revs (reviveT t ⟨⟨xi, xg⟩, ⟨xt, xn, xk, xd⟩⟩) (prevT l (k + 1)) (l.drop (k + 1)) := by rw [drop_at HX.out, prevT_succ HX.out]; exact revs_ok (by unfold prevT; rw [if_pos HK0.out]; simp) hE
            have HR2 := Lib.hid hR2
            have HB4 := Lib.hid (Chg.onto HBb.out HCc.out (Nat.le_refl _) (fun j hj h => by have := (HOb.out j h).1; omega))
            clear hE hR2
            generalize reviveE t ⟨⟨xi, xg⟩, ⟨xt, xn, xk, xd⟩⟩ = E at *
            go_wp2_with fail
            go_roundw
            case rel => exact ⟨k + 1, _, O, by omega, by go_num, HRv.out.trans HR2.out, HTc.out, fun j hj => ⟨(HOb.out j hj).1, Nat.lt_of_lt_of_le (HOb.out j hj).2 HCc.out.size⟩, HB4.out⟩
            case measure => simp [intOf]; omega
          · have t7 : (reviveE t ⟨⟨xi, xg⟩, ⟨xt, xn, xk, xd⟩⟩ == 0) = false := beq_eq_false_iff_ne.2 hE
            have hR2 : revs t (prevT l k) (l.drop k) = none := by rw [drop_at HX.out]; exact revs_bad (Or.inr hE)
            have HR2 := Lib.hid hR2
            have HB4 := Lib.hid (Chg.onto HBb.out HCc.out (Nat.le_refl _) (fun j hj h => by have := (HOb.out j h).1; omega))
            clear hE hR2
            generalize reviveE t ⟨⟨xi, xg⟩, ⟨xt, xn, xk, xd⟩⟩ = E at *
            go_wp2_with fail
            go_ret2
            exact ⟨HB4.out, Or.inl ⟨HMk.out.trans (HRv.out.trans HR2.out), rfl⟩⟩
      · have hR2 : revs t (prevT l k) (l.drop k) = some t := by rw [List.drop_of_length_le (by omega)]; unfold revs; rfl
        have HR2 := Lib.hid hR2
        clear hR2
        go_wp2_with fail
        go_ret2
        exact ⟨HB.out, Or.inr ⟨_, O, t, HMk.out.trans (HRv.out.trans HR2.out), rfl, HTa.out, fun j hj => (HO.out j hj).1⟩⟩

set_option maxRecDepth 100000 in
set_option maxHeartbeats 8000000 in
theorem make_in_p {w : World} {cap serial : Int} {A1 A2 : Option Addr} {c1 c2 : Nat} {lasts : List Int} {l : List Listed} (h1 : Kd.C (Kd.int .i64) w A1 lasts.length lasts) (g1 : lasts.length ≤ c1) (h2 : Kd.C k34 w A2 l.length (sL l)) (g2 : l.length ≤ c2) (hn1 : lasts.length ≤ 1000) (hn2 : l.length ≤ 1000) (b1 : ¬ cap < 0) (b2 : ¬ 65536 < cap) (b3 : ¬ serial < 0) (b5 : ¬ cap < l.length) (hs : In64 serial) (hfl : ∀ x ∈ l, In64O x.o) {v : Int} (b4 : lasts.getLast? = some v) (b6 : v ≠ 0) (hlast : ¬ headBad cap serial lasts l.length) :
    Calls Try.prog 16 #[.int .i64 cap, .int .i64 serial, .slice A1 lasts.length c1, .slice A2 l.length c2] w (MakePost cap serial lasts l w) := by
  have H1 := Lib.hid h1
  have H2 := Lib.hid h2
  have HS := Lib.hid hs
  have HFl := Lib.hid hfl
  have HHd := Lib.hid hlast
  have hu34 := Try.underlying34
  have hu32 := Try.underlying32
  have hu30 := Try.underlying30
  have hu28 := Try.underlying28
  have hu73 := Try.underlying73
  have hu70 := Try.underlying70
  have t1 : decide (cap < 0) = false := decide_eq_false (by omega)
  have t2 : decide (cap > 65536) = false := decide_eq_false (by omega)
  have t3 : decide (serial < 0) = false := decide_eq_false (by omega)
  have t5 : decide ((l.length : Int) > cap) = false := decide_eq_false (by omega)
  have hlp : 0 < lasts.length := by cases lasts with | nil => simp at b4 | cons a r => simp
  rw [getLast_at hlp] at b4
  obtain ⟨ae, hA, m0⟩ := irow_at h1 b4
  subst hA
  have t4 : decide ((lasts.length : Int) > 0) = true := decide_eq_true (by omega)
  have hw0 : wrap64 ((lasts.length : Int) - 1) = ((lasts.length - 1 : Nat) : Int) := by unfold wrap64; omega
  have hw2 : (lasts.length : Int) - 1 = ((lasts.length - 1 : Nat) : Int) := by omega
  have hw3 : (0 : Int) ≤ ((lasts.length - 1 : Nat) : Int) := by omega
  have hw4 : ((lasts.length - 1 : Nat) : Int) < lasts.length := by omega
  have hw5 : (((lasts.length - 1 : Nat) : Int)).toNat = lasts.length - 1 := by omega
  have t6 : (v == 0) = false := beq_eq_false_iff_ne.2 b6
  clear h1 h2 hs hfl hlast b4 b6 hlp
  obtain ⟨i0, hi, hz0, hz1, hz2⟩ := info_parts info73
  go_enter Try.func16, Try.ntmps16
  go_wp2_with fail
  refine (new_ cap _).mono ?_
  rintro e w1 ⟨rfl, hT, hb⟩
  have HT := Lib.hid hT
  have HB := Lib.hid hb
  have hc1 := hT.head.cell (j := 1) rfl
  have hf1 := hT.head.free 1
  have hBl := hT.head.lt
  clear hT hb
  go_wp2_with fail
  refine gwP (fun wq hwq => ?_)
  have HTq : Hid (TabV wq (w.heap.size + 1) w.heap.size (.slice none 0 0) ⟨cap, serial, []⟩) := Lib.hid (by
    have h0 := HT.out
    have ec : (newT cap).cap = cap := by unfold newT capC; simp only; omega
    have g0 := h0.good
    rw [← hwq]
    exact TabV.of (t' := ⟨cap, serial, []⟩) (f := timesOf []) (n := 0) (m := 0) (xs := []) (by have := h0.head.set 1 (.int .i64 serial); rw [ec] at this; exact this) ⟨rfl, Or.inl ⟨rfl, rfl⟩⟩ rfl (h0.map.keep (Below.heap_setCell _ _ _ _ (by simp))) rfl (fun _ => rfl) ⟨by rw [← ec]; exact g0.cap0, by rw [← ec]; exact g0.cap1, HS.out, fun s hs => (by cases hs), fun i j a b ha => (by simp at ha), by simp⟩)
  have HBq : Hid (Below w.heap.size w wq) := Lib.hid (by rw [← hwq]; exact HB.out.setCell (by simp) _)
  clear hwq HT HB hc1 hf1
  go_loopw [54] (fun i wr => ∃ (k : Nat) (vv : Value), k ≤ lasts.length ∧ i = .int .i64 k ∧ (∀ v ∈ lasts.take k, 0 ≤ v ∧ v ≤ 4294967295) ∧ TabV wr (w.heap.size + 1) w.heap.size vv ⟨cap, serial, slotsOf (lasts.take k)⟩ ∧ (∀ j, vv.ownBlock = some j → w.heap.size ≤ j) ∧ Below w.heap.size w wr) (fun i _ => lasts.length - (intOf i).toNat)
  case atStart => exact ⟨0, .slice none 0 0, Nat.zero_le _, rfl, fun v hv => (by simp at hv), HTq.out, fun j hj => (by simp [Value.ownBlock] at hj), HBq.out⟩
  case round =>
    clear HTq HBq hw0 hw2 hw3 hw4 hw5 m0
    obtain ⟨k, vv, hk, rfl, hok, hT, hown0, hb⟩ := hrel
    have HT := Lib.hid hT
    have HB := Lib.hid hb
    have HOk := Lib.hid hok
    have HOw := Lib.hid hown0
    clear hT hb hok hown0
    by_cases hlt : k < lasts.length
    · obtain ⟨x, hx⟩ : ∃ x, lasts[k]? = some x := ⟨_, List.getElem?_eq_getElem hlt⟩
      have HX := Lib.hid hx
      obtain ⟨ae', hA', m1⟩ := irow_at (Kd.C_below H1.out HB.out) hx
      cases hA'
      have hk0 : (0 : Int) ≤ k := by omega
      have hkn : (k : Int) < lasts.length := by omega
      have hkt : ((k : Int)).toNat = k := by omega
      clear hx
      by_cases hx0 : x < 0
      · have c1 : decide (x < 0) = true := decide_eq_true hx0
        have HRm := Lib.hid (makeR_last (cap := cap) (serial := serial) (l := l) (List.mem_of_getElem? HX.out) (Or.inl hx0))
        go_wp2_with fail
        go_ret2
        exact ⟨HB.out, Or.inl ⟨HRm.out, rfl⟩⟩
      · have c1 : decide (x < 0) = false := decide_eq_false hx0
        by_cases hx1 : 4294967295 < x
        · have c2 : decide (x > 4294967295) = true := decide_eq_true hx1
          have HRm := Lib.hid (makeR_last (cap := cap) (serial := serial) (l := l) (List.mem_of_getElem? HX.out) (Or.inr hx1))
          go_wp2_with fail
          go_ret2
          exact ⟨HB.out, Or.inl ⟨HRm.out, rfl⟩⟩
        · have c2 : decide (x > 4294967295) = false := decide_eq_false hx1
          have d2 := HT.out.c2
          have hBl := HT.out.head.lt
          have hTn : (slotsOf (lasts.take k)).length = k := by unfold slotsOf; rw [List.length_map, List.length_take]; omega
          have hsl := own_slice HT.out.row
          simp only [hTn] at hsl
          obtain ⟨Av, cv, rfl⟩ := hsl
          have Hc1 : Hid (∀ j u, (encSlot ⟨x, 0, op0⟩)[j]? = some u → (wr.alloc (Obj.cells #[.int .i64 x, .int .i64 0, .int .i64 0, .bool false, .int .i64 0, .int .i64 0] 73)).cell? ((⟨wr.heap.size, 0, none⟩ : Addr).add j) = some u) := Lib.hid (fun j u hu => by
            have hb := Blk.new wr #[.int .i64 x, .int .i64 0, .int .i64 0, .bool false, .int .i64 0, .int .i64 0] 73
            have := hb.cell (j := j) (v := u) (by simpa [encSlot, op0] using hu)
            rw [show ((⟨wr.heap.size, 0, none⟩ : Addr).add j) = ⟨wr.heap.size, j, none⟩ by simp [Addr.add]; intro h; omega]
            exact this)
          have Hc2 : Hid (∀ u ∈ encSlot ⟨x, 0, op0⟩, u.oneCell' = true) := Lib.hid (by simp [encSlot, op0, Value.oneCell'])
          have Hc3 : Hid (k + 1 ≤ maxLen) := Lib.hid (by unfold maxLen; omega)
          have Hc4 : Hid ((k + 1) * 48 ≤ 140737488355328) := Lib.hid (by omega)
          have HRow : Hid (wr.ownsRow 0 73 6 (.slice Av k cv) k (cellsOf (slotsOf (lasts.take k)))) := Lib.hid (by have := HT.out.row; simp only [hTn] at this; exact this)
          have HTn := Lib.hid hTn
          have HBv : Hid ((Value.slice Av k cv).ownBlock ≠ some (w.heap.size + 1)) := Lib.hid (fun e => by
            obtain ⟨_, ⟨e1, _⟩ | ⟨R, cap1, cur, e1, _, hb, _⟩⟩ := HRow.out
            · rw [e1] at e; cases e
            · rw [e1] at e
              have : R = w.heap.size + 1 := by simpa [Value.ownBlock] using e
              subst this
              have := HT.out.head
              unfold Blk at this
              rw [hb] at this
              injection this with this
              injection this with _ this
              exact absurd this (by decide))
          clear hTn
          go_wp2_with (first
            | (at_builtin
               refine wpList_append_own_at _ rfl _ _ 68 rfl 0 73 i0 _ 6 48 Try.underlying68 hi hz0 hz1 hz2 rfl (by decide) (.slice Av k cv) k (cellsOf (slotsOf (lasts.take k))) rfl (HRow.out.alloc _) ⟨wr.heap.size, 0, none⟩ 1 1 (encSlot ⟨x, 0, op0⟩) rfl rfl Hc1.out Hc2.out Hc3.out Hc4.out (Nat.zero_le _) ?_
               intro v' w3 hown hgrow hnil hloc
               obtain ⟨g', cap', rfl⟩ := ownsRow_succ hown
               have hch : Chg (fun k_ => (Value.slice Av k cv).ownBlock = some k_) wr w3 := (Chg.alloc (Chg.refl _ wr) _).trans ⟨hgrow.os, hgrow.tape, hgrow.output, hgrow.size, fun k_ hk_ hne => hgrow.block k_ hk_ (fun e => hne e.symm)⟩ (fun _ _ h => h)
               have e2 : w3.cell? ⟨w.heap.size + 1, 2, none⟩ = some (.slice Av k cv) := (hch.cell (p := ⟨w.heap.size + 1, 2, none⟩) hBl HBv.out).trans d2
               have f2 : w3.frozen? ⟨w.heap.size + 1, 2, none⟩ = false := (hch.frozen (p := ⟨w.heap.size + 1, 2, none⟩) hBl HBv.out).trans (HT.out.head.free 2)
               have HOwn := Lib.hid hown
               have HCh := Lib.hid hch
               have HLoc := Lib.hid hloc
               clear hown hgrow hnil hloc hch))
          have hpush := TabV.push (w3 := w3) (g' := g') (cap' := cap') HT.out (s := ⟨x, 0, op0⟩) rfl (slot_good (by omega) (by omega)) (by simp only [HTn.out]; omega) (by simp only [HTn.out]; exact HOwn.out) HCh.out (by
            rcases HLoc.out with e | e
            · exact Or.inl (by rw [← e]; rfl)
            · have e' : some g' = some (wr.heap.size + 1) := e.trans (by simp)
              injection e' with e'
              exact Or.inr (by omega))
          simp only [HTn.out] at hpush
          have hsn : slotsOf (lasts.take (k + 1)) = slotsOf (lasts.take k) ++ [⟨x, 0, op0⟩] := by unfold slotsOf; rw [List.take_add_one, HX.out]; simp
          go_roundw
          case rel =>
            refine ⟨k + 1, _, by omega, by go_num, fun v hv => ?_, by rw [hsn]; exact hpush.1, fun j hj => ?_, Chg.onto HB.out hpush.2 (Nat.le_refl _) (fun j hj h => ?_)⟩
            · rw [List.take_add_one, HX.out] at hv
              rcases List.mem_append.1 hv with hv | hv
              · exact HOk.out v hv
              · simp at hv; omega
            · have : g' = j := by simpa [Value.ownBlock] using hj
              subst this
              rcases HLoc.out with e | e
              · exact HOw.out _ (by rw [← e]; rfl)
              · have e' : some g' = some (wr.heap.size + 1) := e.trans (by simp)
                injection e' with e'
                have := HB.out.size; omega
            · rcases h with h | h
              · omega
              · have := HOw.out _ h; omega
          case measure => simp [intOf]; omega
    · have hkk : k = lasts.length := by omega
      have etk : lasts.take k = lasts := List.take_of_length_le (by omega)
      have hT1 := HT.out
      have ho1 := HOk.out
      rw [etk] at hT1 ho1
      have HMk : Hid (makeR cap serial lasts l = revs ⟨cap, serial, slotsOf lasts⟩ none l) := Lib.hid (makeR_revs HHd.out ho1)
      clear HT
      have HT := Lib.hid hT1
      clear hT1 ho1 etk hkk HOk
      have HTa : Hid (TabAt wr (fun j => w.heap.size ≤ j ∧ j < wr.heap.size) (w.heap.size + 1) ⟨cap, serial, slotsOf lasts⟩) := Lib.hid ⟨_, _, HT.out, ⟨by omega, HT.out.head.lt⟩, ⟨Nat.le_refl _, HT.out.map.lt⟩, fun j hj => ⟨HOw.out j hj, HT.out.ltV hj⟩⟩
      clear HT HOw
      go_wp2_with fail
      go_loopw [78] (fun i wr => ∃ (k : Nat) (t : Tab) (O : Nat → Prop), k ≤ l.length ∧ i = .int .i64 k ∧ revs ⟨cap, serial, slotsOf lasts⟩ none l = revs t (prevT l k) (l.drop k) ∧ TabAt wr O (w.heap.size + 1) t ∧ (∀ j, O j → w.heap.size ≤ j ∧ j < wr.heap.size) ∧ Below w.heap.size w wr) (fun i _ => l.length - (intOf i).toNat)
      case atStart => exact ⟨0, _, _, Nat.zero_le _, rfl, rfl, HTa.out, fun j hj => hj, HB.out⟩
      case round =>
        clear HTa HB
        obtain ⟨k, t, O, hk, rfl, hrv, hT, hO, hb⟩ := hrel
        have HTa := Lib.hid hT
        have HO := Lib.hid hO
        have HB := Lib.hid hb
        have HRv := Lib.hid hrv
        clear hT hO hb hrv
        by_cases hlt : k < l.length
        · obtain ⟨x, hx⟩ : ∃ x, l[k]? = some x := ⟨_, List.getElem?_eq_getElem hlt⟩
          have HX := Lib.hid hx
          obtain ⟨ad, hA, r0, r1, r2, r3, r4, r5⟩ := row_at (Kd.C_below H2.out HB.out) hx
          cases hA
          have HFx := Lib.hid (HFl.out x (List.mem_of_getElem? hx))
          have hk0 : (0 : Int) ≤ k := by omega
          have hkn : (k : Int) < l.length := by omega
          have hkt : ((k : Int)).toNat = k := by omega
          clear hx
          obtain ⟨⟨xi, xg⟩, ⟨xt, xn, xk, xd⟩⟩ := x
          dsimp only at r0 r1 r2 r3 r4 r5
          have hadl : (ad.add (k * 6)).block < wr.heap.size := World.block_lt_of_cell? _ _ r0
          go_wp2_with fail
          refine gwP (fun wa hwa => ?_)
          have hb : Below wr.heap.size wr wa := by rw [← hwa]; exact (Below.refl _ _).alloc (Nat.le_refl _) _
          have HXb : Hid (Blk wa wr.heap.size #[.int .i64 xi, .int .i64 xg, .int .i64 xt, .bool xn, .int .i64 xk, .int .i64 xd] 34) := Lib.hid (by rw [← hwa]; exact Blk.new _ _ _)
          have hb' : Below wr.heap.size wr wa.drew := hb.drew
          have HTb := Lib.hid (HTa.out.below hb')
          have HBb := Lib.hid (HB.out.trans (hb'.mono HB.out.size))
          have HXc := Lib.hid HXb.out.drew
          have HOb : Hid (∀ j, O j → w.heap.size ≤ j ∧ j < wa.drew.heap.size) := Lib.hid (fun j hj => ⟨(HO.out j hj).1, Nat.lt_of_lt_of_le (HO.out j hj).2 hb.size⟩)
          have HOl0 : Hid (∀ j, O j → j < wr.heap.size) := Lib.hid (fun j hj => (HO.out j hj).2)
          clear hb hb' hwa HXb HTa HB r0 r1 r2 r3 r4 r5 hadl HO
          by_cases hp0 : 0 < k
          · have HOlt := HOl0
            have b4 : decide ((0 : Int) < k) = true := decide_eq_true (by omega)
            have b6 : decide (0 < k) = true := decide_eq_true hp0
            obtain ⟨y, hy⟩ : ∃ y, l[k - 1]? = some y := ⟨_, List.getElem?_eq_getElem (by omega)⟩
            have HY := Lib.hid hy
            have HPr : Hid (prevT l k = some y.o.time) := Lib.hid (by unfold prevT; rw [if_neg (by omega), hy]; rfl)
            obtain ⟨ad', hA', y0, y1, y2, y3, y4, y5⟩ := row_at (Kd.C_below H2.out HBb.out) hy
            cases hA'
            clear y0 y1 y3 y4 y5 hy
            obtain ⟨⟨yi, yg⟩, ⟨yt, yn, yk, yd⟩⟩ := y
            dsimp only at y2 HPr
            have hw1 : IntKind.i64.wrap ((k - 1 : Nat) : Int) = ((k - 1 : Nat) : Int) := IntWalk.i64_in _ (by omega)
            have hw0 : wrap64 ((k : Int) - 1) = ((k - 1 : Nat) : Int) := by unfold wrap64; omega
            have hw2 : (k : Int) - 1 = ((k - 1 : Nat) : Int) := by omega
            have hw3 : (0 : Int) ≤ ((k - 1 : Nat) : Int) := by omega
            have hw4 : ((k - 1 : Nat) : Int) < l.length := by omega
            have hw5 : (((k - 1 : Nat) : Int)).toNat = k - 1 := by omega
            clear hp0
            by_cases hyx : xt ≤ yt
            · have b5 : decide (xt ≤ yt) = true := decide_eq_true hyx
              have hR2 : revs t (prevT l k) (l.drop k) = none := by rw [drop_at HX.out, HPr.out]; exact revs_bad (Or.inl (by simpa using hyx))
              have HR2 := Lib.hid hR2
              clear hyx hR2
              refine start_ (n := 21) (S := fun w' => w'.cell? ⟨wr.heap.size, 0, none⟩ = some (.int .i64 xi) ∧ w'.cell? ⟨wr.heap.size, 1, none⟩ = some (.int .i64 xg) ∧ w'.cell? ⟨wr.heap.size, 2, none⟩ = some (.int .i64 xt) ∧ w'.cell? ⟨wr.heap.size, 3, none⟩ = some (.bool xn) ∧ w'.cell? ⟨wr.heap.size, 4, none⟩ = some (.int .i64 xk) ∧ w'.cell? ⟨wr.heap.size, 5, none⟩ = some (.int .i64 xd) ∧ w'.cell? ⟨(ad.add ((k - 1) * 6)).block, (ad.add ((k - 1) * 6)).off + 2, none⟩ = some (.int .i64 yt)) (ds := []) #[false, false, false, false, false, false, false, false, false, false, false, false, false, false, false, false, false, false, false, false, false] (by kernel_rfl) rfl rfl ⟨HXc.out.cell (j := 0) rfl, HXc.out.cell (j := 1) rfl, HXc.out.cell (j := 2) rfl, HXc.out.cell (j := 3) rfl, HXc.out.cell (j := 4) rfl, HXc.out.cell (j := 5) rfl, y2⟩ (fun hHeld => ?_); refine with_tabW tab16_16 bits16_16 (fun HT_ HW_ => ?_)
              generalize wa.drew = wd at HXc HTb HBb HOb y2 hHeld ⊢
              refine pure_ (i := 0) (N := some 83) (v := ?_) (a' := ?_) #[true, false, false, false, false, false, false, false, false, false, false, false, false, false, false, false, false, false, false, false, false] rfl rfl (any_of HT_.out (by kernel_rfl)) (fun _ _ _ h => h) (Or.inl ⟨by rfl, ?_⟩) ?_ ?_
              rotate_left
              · intro w'
                go_simp
                with_reducible rfl
              rotate_left
              · simp only [Act.put, List.setIfInBounds_toArray, List.set_cons_zero, List.set_cons_succ]
                rfl
              refine pure_ (i := 1) (N := some 84) (v := ?_) (a' := ?_) #[true, true, false, false, false, false, false, false, false, false, false, false, false, false, false, false, false, false, false, false, false] rfl rfl (any_of HT_.out (by kernel_rfl)) (fun _ _ _ h => h) (Or.inl ⟨by rfl, ?_⟩) ?_ ?_
              rotate_left
              · intro w'
                go_simp
                with_reducible rfl
              rotate_left
              · simp only [Act.put, List.setIfInBounds_toArray, List.set_cons_zero, List.set_cons_succ]
                rfl
              refine pure_ (i := 2) (N := some 85) (v := ?_) (a' := ?_) #[true, true, true, false, false, false, false, false, false, false, false, false, false, false, false, false, false, false, false, false, false] rfl rfl (any_of HT_.out (by kernel_rfl)) (fun _ _ _ h => h) (Or.inl ⟨by rfl, ?_⟩) ?_ ?_
              rotate_left
              · intro w'
                go_simp
                with_reducible rfl
              rotate_left
              · simp only [Act.put, List.setIfInBounds_toArray, List.set_cons_zero, List.set_cons_succ]
                rfl
              refine pure_ (i := 3) (N := some 86) (v := ?_) (a' := ?_) #[true, true, true, true, false, false, false, false, false, false, false, false, false, false, false, false, false, false, false, false, false] rfl rfl (any_of HT_.out (by kernel_rfl)) (fun _ _ _ h => h) (Or.inl ⟨by rfl, ?_⟩) ?_ ?_
              rotate_left
              · intro w'
                go_simp
                with_reducible rfl
              rotate_left
              · simp only [Act.put, List.setIfInBounds_toArray, List.set_cons_zero, List.set_cons_succ]
                rfl
              refine pure_ (i := 4) (N := some 87) (v := ?_) (a' := ?_) #[true, true, true, true, true, false, false, false, false, false, false, false, false, false, false, false, false, false, false, false, false] rfl rfl (any_of HT_.out (by kernel_rfl)) (fun _ _ _ h => h) (Or.inl ⟨by rfl, ?_⟩) ?_ ?_
              rotate_left
              · intro w'
                go_simp
                with_reducible rfl
              rotate_left
              · simp only [Act.put, List.setIfInBounds_toArray, List.set_cons_zero, List.set_cons_succ]
                rfl
              refine pure_ (i := 5) (N := some 88) (v := ?_) (a' := ?_) #[true, true, true, true, true, true, false, false, false, false, false, false, false, false, false, false, false, false, false, false, false] rfl rfl (any_of HT_.out (by kernel_rfl)) (fun _ _ _ h => h) (Or.inl ⟨by rfl, ?_⟩) ?_ ?_
              rotate_left
              · intro w'
                go_simp
                with_reducible rfl
              rotate_left
              · simp only [Act.put, List.setIfInBounds_toArray, List.set_cons_zero, List.set_cons_succ]
                rfl
              refine pure_ (i := 6) (N := some 89) (v := ?_) (a' := ?_) #[true, true, true, true, true, true, true, false, false, false, false, false, false, false, false, false, false, false, false, false, false] rfl rfl (any_of HT_.out (by kernel_rfl)) (fun _ _ _ h => h) (Or.inl ⟨by rfl, ?_⟩) ?_ ?_
              rotate_left
              · intro w'
                go_simp
                with_reducible rfl
              rotate_left
              · simp only [Act.put, List.setIfInBounds_toArray, List.set_cons_zero, List.set_cons_succ]
                rfl
              refine pure_ (i := 7) (N := some 90) (v := ?_) (a' := ?_) #[true, true, true, true, true, true, true, true, false, false, false, false, false, false, false, false, false, false, false, false, false] rfl rfl (any_of HT_.out (by kernel_rfl)) (fun _ _ _ h => h) (Or.inl ⟨by rfl, ?_⟩) ?_ ?_
              rotate_left
              · intro w'
                go_simp
                with_reducible rfl
              rotate_left
              · simp only [Act.put, List.setIfInBounds_toArray, List.set_cons_zero, List.set_cons_succ]
                rfl
              refine pure_ (i := 8) (N := some 91) (v := ?_) (a' := ?_) #[true, true, true, true, true, true, true, true, true, false, false, false, false, false, false, false, false, false, false, false, false] rfl rfl (any_of HT_.out (by kernel_rfl)) (fun _ _ _ h => h) (Or.inl ⟨by rfl, ?_⟩) ?_ ?_
              rotate_left
              · intro w'
                go_simp
                with_reducible rfl
              rotate_left
              · simp only [Act.put, List.setIfInBounds_toArray, List.set_cons_zero, List.set_cons_succ]
                rfl
              refine pure_ (i := 10) (N := some 93) (v := ?_) (a' := ?_) #[true, true, true, true, true, true, true, true, true, false, true, false, false, false, false, false, false, false, false, false, false] rfl rfl (any_of HT_.out (by kernel_rfl)) (fun _ _ _ h => h) (Or.inl ⟨by rfl, ?_⟩) ?_ ?_
              rotate_left
              · intro w'
                go_simp
                with_reducible rfl
              rotate_left
              · simp only [Act.put, List.setIfInBounds_toArray, List.set_cons_zero, List.set_cons_succ]
                rfl
              refine pure_ (i := 11) (N := some 94) (v := ?_) (a' := ?_) #[true, true, true, true, true, true, true, true, true, false, true, true, false, false, false, false, false, false, false, false, false] rfl rfl (any_of HT_.out (by kernel_rfl)) (fun _ _ _ h => h) (Or.inl ⟨by rfl, ?_⟩) ?_ ?_
              rotate_left
              · intro w'
                go_simp
                with_reducible rfl
              rotate_left
              · simp only [Act.put, List.setIfInBounds_toArray, List.set_cons_zero, List.set_cons_succ]
                rfl
              refine take_ (i := 9) (N := some 92) (v := ?_) (a' := ?_) #[true, true, true, true, true, true, true, true, true, true, true, true, false, false, false, false, false, false, false, false, false] rfl rfl (take_ofW HT_.out HW_.out (by kernel_rfl)) (fun _ _ _ h => h) (Or.inl ⟨by rfl, ?_⟩) hHeld ?_ ?_
              rotate_left
              · rintro w' ⟨s0, s1, s2, s3, s4, s5, s6⟩
                go_simp
                with_reducible rfl
              rotate_left
              · simp only [Act.put, List.setIfInBounds_toArray, List.set_cons_zero, List.set_cons_succ]
                rfl
              refine take_ (i := 12) (N := some 95) (v := ?_) (a' := ?_) #[true, true, true, true, true, true, true, true, true, true, true, true, true, false, false, false, false, false, false, false, false] rfl rfl (take_ofW HT_.out HW_.out (by kernel_rfl)) (fun _ _ _ h => h) (Or.inl ⟨by rfl, ?_⟩) hHeld ?_ ?_
              rotate_left
              · rintro w' ⟨s0, s1, s2, s3, s4, s5, s6⟩
                go_simp
                with_reducible rfl
              rotate_left
              · simp only [Act.put, List.setIfInBounds_toArray, List.set_cons_zero, List.set_cons_succ]
                rfl
              refine pure_ (i := 13) (N := some 96) (v := ?_) (a' := ?_) #[true, true, true, true, true, true, true, true, true, true, true, true, true, true, false, false, false, false, false, false, false] rfl rfl (any_of HT_.out (by kernel_rfl)) (fun _ _ _ h => h) (Or.inl ⟨by rfl, ?_⟩) ?_ ?_
              rotate_left
              · intro w'
                go_simp
                with_reducible rfl
              rotate_left
              · simp only [Act.put, List.setIfInBounds_toArray, List.set_cons_zero, List.set_cons_succ]
                rfl
              refine pure_ (i := 14) (N := some 97) (v := ?_) (a' := ?_) #[true, true, true, true, true, true, true, true, true, true, true, true, true, true, true, false, false, false, false, false, false] rfl rfl (any_of HT_.out (by kernel_rfl)) (fun _ _ _ h => h) (Or.inl ⟨by rfl, ?_⟩) ?_ ?_
              rotate_left
              · intro w'
                go_simp
                with_reducible rfl
              rotate_left
              · simp only [Act.put, List.setIfInBounds_toArray, List.set_cons_zero, List.set_cons_succ]
                rfl
              refine pure_ (i := 15) (N := some 98) (v := ?_) (a' := ?_) #[true, true, true, true, true, true, true, true, true, true, true, true, true, true, true, true, false, false, false, false, false] rfl rfl (any_of HT_.out (by kernel_rfl)) (fun _ _ _ h => h) (Or.inl ⟨by rfl, ?_⟩) ?_ ?_
              rotate_left
              · intro w'
                go_simp
                with_reducible rfl
              rotate_left
              · simp only [Act.put, List.setIfInBounds_toArray, List.set_cons_zero, List.set_cons_succ]
                rfl
              refine pure_ (i := 16) (N := some 99) (v := undef) (a' := ?_) #[true, true, true, true, true, true, true, true, true, true, true, true, true, true, true, true, true, false, false, false, false] rfl rfl (any_of HT_.out (by kernel_rfl)) (fun _ _ _ h => h) (Or.inr ⟨by rfl, rfl⟩) ?_ ?_
              rotate_left
              · simp only [Act.put, List.setIfInBounds_toArray, List.set_cons_zero, List.set_cons_succ]
                rfl
              refine pure_ (i := 17) (N := some 100) (v := undef) (a' := ?_) #[true, true, true, true, true, true, true, true, true, true, true, true, true, true, true, true, true, true, false, false, false] rfl rfl (any_of HT_.out (by kernel_rfl)) (fun _ _ _ h => h) (Or.inr ⟨by rfl, rfl⟩) ?_ ?_
              rotate_left
              · simp only [Act.put, List.setIfInBounds_toArray, List.set_cons_zero, List.set_cons_succ]
                rfl
              refine pure_ (i := 18) (N := some 101) (v := undef) (a' := ?_) #[true, true, true, true, true, true, true, true, true, true, true, true, true, true, true, true, true, true, true, false, false] rfl rfl (any_of HT_.out (by kernel_rfl)) (fun _ _ _ h => h) (Or.inr ⟨by rfl, rfl⟩) ?_ ?_
              rotate_left
              · simp only [Act.put, List.setIfInBounds_toArray, List.set_cons_zero, List.set_cons_succ]
                rfl
              refine pure_ (i := 19) (N := some 102) (v := undef) (a' := ?_) #[true, true, true, true, true, true, true, true, true, true, true, true, true, true, true, true, true, true, true, true, false] rfl rfl (any_of HT_.out (by kernel_rfl)) (fun _ _ _ h => h) (Or.inr ⟨by rfl, rfl⟩) ?_ ?_
              rotate_left
              · simp only [Act.put, List.setIfInBounds_toArray, List.set_cons_zero, List.set_cons_succ]
                rfl
              refine pure_ (i := 20) (N := some 103) (v := ?_) (a' := ?_) #[true, true, true, true, true, true, true, true, true, true, true, true, true, true, true, true, true, true, true, true, true] rfl rfl (any_of HT_.out (by kernel_rfl)) (fun _ _ _ h => h) (Or.inl ⟨by rfl, ?_⟩) ?_ ?_
              rotate_left
              · intro w'
                go_simp
                with_reducible rfl
              rotate_left
              · simp only [Act.put, List.setIfInBounds_toArray, List.set_cons_zero, List.set_cons_succ]
                rfl
              refine done_ (done_of HT_.out (by kernel_rfl)) ?_
              clear hHeld HT_ HW_
              go_wp2_with fail
              go_ret2
              exact ⟨HBb.out, Or.inl ⟨HMk.out.trans (HRv.out.trans HR2.out), rfl⟩⟩
            · have b5 : decide (xt ≤ yt) = false := decide_eq_false hyx
              have Hyx := Lib.hid hyx
              clear hyx
              refine start_ (n := 21) (S := fun w' => w'.cell? ⟨wr.heap.size, 0, none⟩ = some (.int .i64 xi) ∧ w'.cell? ⟨wr.heap.size, 1, none⟩ = some (.int .i64 xg) ∧ w'.cell? ⟨wr.heap.size, 2, none⟩ = some (.int .i64 xt) ∧ w'.cell? ⟨wr.heap.size, 3, none⟩ = some (.bool xn) ∧ w'.cell? ⟨wr.heap.size, 4, none⟩ = some (.int .i64 xk) ∧ w'.cell? ⟨wr.heap.size, 5, none⟩ = some (.int .i64 xd) ∧ w'.cell? ⟨(ad.add ((k - 1) * 6)).block, (ad.add ((k - 1) * 6)).off + 2, none⟩ = some (.int .i64 yt)) (ds := []) #[false, false, false, false, false, false, false, false, false, false, false, false, false, false, false, false, false, false, false, false, false] (by kernel_rfl) rfl rfl ⟨HXc.out.cell (j := 0) rfl, HXc.out.cell (j := 1) rfl, HXc.out.cell (j := 2) rfl, HXc.out.cell (j := 3) rfl, HXc.out.cell (j := 4) rfl, HXc.out.cell (j := 5) rfl, y2⟩ (fun hHeld => ?_); refine with_tabW tab16_16 bits16_16 (fun HT_ HW_ => ?_)
              generalize wa.drew = wd at HXc HTb HBb HOb y2 hHeld ⊢
              refine pure_ (i := 0) (N := some 83) (v := ?_) (a' := ?_) #[true, false, false, false, false, false, false, false, false, false, false, false, false, false, false, false, false, false, false, false, false] rfl rfl (any_of HT_.out (by kernel_rfl)) (fun _ _ _ h => h) (Or.inl ⟨by rfl, ?_⟩) ?_ ?_
              rotate_left
              · intro w'
                go_simp
                with_reducible rfl
              rotate_left
              · simp only [Act.put, List.setIfInBounds_toArray, List.set_cons_zero, List.set_cons_succ]
                rfl
              refine pure_ (i := 1) (N := some 84) (v := ?_) (a' := ?_) #[true, true, false, false, false, false, false, false, false, false, false, false, false, false, false, false, false, false, false, false, false] rfl rfl (any_of HT_.out (by kernel_rfl)) (fun _ _ _ h => h) (Or.inl ⟨by rfl, ?_⟩) ?_ ?_
              rotate_left
              · intro w'
                go_simp
                with_reducible rfl
              rotate_left
              · simp only [Act.put, List.setIfInBounds_toArray, List.set_cons_zero, List.set_cons_succ]
                rfl
              refine pure_ (i := 2) (N := some 85) (v := ?_) (a' := ?_) #[true, true, true, false, false, false, false, false, false, false, false, false, false, false, false, false, false, false, false, false, false] rfl rfl (any_of HT_.out (by kernel_rfl)) (fun _ _ _ h => h) (Or.inl ⟨by rfl, ?_⟩) ?_ ?_
              rotate_left
              · intro w'
                go_simp
                with_reducible rfl
              rotate_left
              · simp only [Act.put, List.setIfInBounds_toArray, List.set_cons_zero, List.set_cons_succ]
                rfl
              refine pure_ (i := 3) (N := some 86) (v := ?_) (a' := ?_) #[true, true, true, true, false, false, false, false, false, false, false, false, false, false, false, false, false, false, false, false, false] rfl rfl (any_of HT_.out (by kernel_rfl)) (fun _ _ _ h => h) (Or.inl ⟨by rfl, ?_⟩) ?_ ?_
              rotate_left
              · intro w'
                go_simp
                with_reducible rfl
              rotate_left
              · simp only [Act.put, List.setIfInBounds_toArray, List.set_cons_zero, List.set_cons_succ]
                rfl
              refine pure_ (i := 4) (N := some 87) (v := ?_) (a' := ?_) #[true, true, true, true, true, false, false, false, false, false, false, false, false, false, false, false, false, false, false, false, false] rfl rfl (any_of HT_.out (by kernel_rfl)) (fun _ _ _ h => h) (Or.inl ⟨by rfl, ?_⟩) ?_ ?_
              rotate_left
              · intro w'
                go_simp
                with_reducible rfl
              rotate_left
              · simp only [Act.put, List.setIfInBounds_toArray, List.set_cons_zero, List.set_cons_succ]
                rfl
              refine pure_ (i := 5) (N := some 88) (v := ?_) (a' := ?_) #[true, true, true, true, true, true, false, false, false, false, false, false, false, false, false, false, false, false, false, false, false] rfl rfl (any_of HT_.out (by kernel_rfl)) (fun _ _ _ h => h) (Or.inl ⟨by rfl, ?_⟩) ?_ ?_
              rotate_left
              · intro w'
                go_simp
                with_reducible rfl
              rotate_left
              · simp only [Act.put, List.setIfInBounds_toArray, List.set_cons_zero, List.set_cons_succ]
                rfl
              refine pure_ (i := 6) (N := some 89) (v := ?_) (a' := ?_) #[true, true, true, true, true, true, true, false, false, false, false, false, false, false, false, false, false, false, false, false, false] rfl rfl (any_of HT_.out (by kernel_rfl)) (fun _ _ _ h => h) (Or.inl ⟨by rfl, ?_⟩) ?_ ?_
              rotate_left
              · intro w'
                go_simp
                with_reducible rfl
              rotate_left
              · simp only [Act.put, List.setIfInBounds_toArray, List.set_cons_zero, List.set_cons_succ]
                rfl
              refine pure_ (i := 7) (N := some 90) (v := ?_) (a' := ?_) #[true, true, true, true, true, true, true, true, false, false, false, false, false, false, false, false, false, false, false, false, false] rfl rfl (any_of HT_.out (by kernel_rfl)) (fun _ _ _ h => h) (Or.inl ⟨by rfl, ?_⟩) ?_ ?_
              rotate_left
              · intro w'
                go_simp
                with_reducible rfl
              rotate_left
              · simp only [Act.put, List.setIfInBounds_toArray, List.set_cons_zero, List.set_cons_succ]
                rfl
              refine pure_ (i := 8) (N := some 91) (v := ?_) (a' := ?_) #[true, true, true, true, true, true, true, true, true, false, false, false, false, false, false, false, false, false, false, false, false] rfl rfl (any_of HT_.out (by kernel_rfl)) (fun _ _ _ h => h) (Or.inl ⟨by rfl, ?_⟩) ?_ ?_
              rotate_left
              · intro w'
                go_simp
                with_reducible rfl
              rotate_left
              · simp only [Act.put, List.setIfInBounds_toArray, List.set_cons_zero, List.set_cons_succ]
                rfl
              refine pure_ (i := 10) (N := some 93) (v := ?_) (a' := ?_) #[true, true, true, true, true, true, true, true, true, false, true, false, false, false, false, false, false, false, false, false, false] rfl rfl (any_of HT_.out (by kernel_rfl)) (fun _ _ _ h => h) (Or.inl ⟨by rfl, ?_⟩) ?_ ?_
              rotate_left
              · intro w'
                go_simp
                with_reducible rfl
              rotate_left
              · simp only [Act.put, List.setIfInBounds_toArray, List.set_cons_zero, List.set_cons_succ]
                rfl
              refine pure_ (i := 11) (N := some 94) (v := ?_) (a' := ?_) #[true, true, true, true, true, true, true, true, true, false, true, true, false, false, false, false, false, false, false, false, false] rfl rfl (any_of HT_.out (by kernel_rfl)) (fun _ _ _ h => h) (Or.inl ⟨by rfl, ?_⟩) ?_ ?_
              rotate_left
              · intro w'
                go_simp
                with_reducible rfl
              rotate_left
              · simp only [Act.put, List.setIfInBounds_toArray, List.set_cons_zero, List.set_cons_succ]
                rfl
              refine take_ (i := 9) (N := some 92) (v := ?_) (a' := ?_) #[true, true, true, true, true, true, true, true, true, true, true, true, false, false, false, false, false, false, false, false, false] rfl rfl (take_ofW HT_.out HW_.out (by kernel_rfl)) (fun _ _ _ h => h) (Or.inl ⟨by rfl, ?_⟩) hHeld ?_ ?_
              rotate_left
              · rintro w' ⟨s0, s1, s2, s3, s4, s5, s6⟩
                go_simp
                with_reducible rfl
              rotate_left
              · simp only [Act.put, List.setIfInBounds_toArray, List.set_cons_zero, List.set_cons_succ]
                rfl
              refine take_ (i := 12) (N := some 95) (v := ?_) (a' := ?_) #[true, true, true, true, true, true, true, true, true, true, true, true, true, false, false, false, false, false, false, false, false] rfl rfl (take_ofW HT_.out HW_.out (by kernel_rfl)) (fun _ _ _ h => h) (Or.inl ⟨by rfl, ?_⟩) hHeld ?_ ?_
              rotate_left
              · rintro w' ⟨s0, s1, s2, s3, s4, s5, s6⟩
                go_simp
                with_reducible rfl
              rotate_left
              · simp only [Act.put, List.setIfInBounds_toArray, List.set_cons_zero, List.set_cons_succ]
                rfl
              refine pure_ (i := 13) (N := some 96) (v := ?_) (a' := ?_) #[true, true, true, true, true, true, true, true, true, true, true, true, true, true, false, false, false, false, false, false, false] rfl rfl (any_of HT_.out (by kernel_rfl)) (fun _ _ _ h => h) (Or.inl ⟨by rfl, ?_⟩) ?_ ?_
              rotate_left
              · intro w'
                go_simp
                with_reducible rfl
              rotate_left
              · simp only [Act.put, List.setIfInBounds_toArray, List.set_cons_zero, List.set_cons_succ]
                rfl
              refine pure_ (i := 14) (N := some 97) (v := ?_) (a' := ?_) #[true, true, true, true, true, true, true, true, true, true, true, true, true, true, true, false, false, false, false, false, false] rfl rfl (any_of HT_.out (by kernel_rfl)) (fun _ _ _ h => h) (Or.inl ⟨by rfl, ?_⟩) ?_ ?_
              rotate_left
              · intro w'
                go_simp
                with_reducible rfl
              rotate_left
              · simp only [Act.put, List.setIfInBounds_toArray, List.set_cons_zero, List.set_cons_succ]
                rfl
              refine pure_ (i := 15) (N := some 98) (v := ?_) (a' := ?_) #[true, true, true, true, true, true, true, true, true, true, true, true, true, true, true, true, false, false, false, false, false] rfl rfl (any_of HT_.out (by kernel_rfl)) (fun _ _ _ h => h) (Or.inl ⟨by rfl, ?_⟩) ?_ ?_
              rotate_left
              · intro w'
                go_simp
                with_reducible rfl
              rotate_left
              · simp only [Act.put, List.setIfInBounds_toArray, List.set_cons_zero, List.set_cons_succ]
                rfl
              refine pure_ (i := 16) (N := some 99) (v := ?_) (a' := ?_) #[true, true, true, true, true, true, true, true, true, true, true, true, true, true, true, true, true, false, false, false, false] rfl rfl (any_of HT_.out (by kernel_rfl)) (fun _ _ _ h => h) (Or.inl ⟨by rfl, ?_⟩) ?_ ?_
              rotate_left
              · intro w'
                go_simp
                with_reducible rfl
              rotate_left
              · simp only [Act.put, List.setIfInBounds_toArray, List.set_cons_zero, List.set_cons_succ]
                rfl
              refine take_ (i := 17) (N := some 100) (v := ?_) (a' := ?_) #[true, true, true, true, true, true, true, true, true, true, true, true, true, true, true, true, true, true, false, false, false] rfl rfl (take_ofW HT_.out HW_.out (by kernel_rfl)) (fun _ _ _ h => h) (Or.inl ⟨by rfl, ?_⟩) hHeld ?_ ?_
              rotate_left
              · rintro w' ⟨s0, s1, s2, s3, s4, s5, s6⟩
                go_simp
                with_reducible rfl
              rotate_left
              · simp only [Act.put, List.setIfInBounds_toArray, List.set_cons_zero, List.set_cons_succ]
                rfl
              refine one_ (i := 18) (N := some 101) #[true, true, true, true, true, true, true, true, true, true, true, true, true, true, true, true, true, true, true, false, false] rfl rfl (one_of HT_.out (by kernel_rfl)) (by decide) (fun K hK => ?_)
              refine goes_ Try.func13 (by kernel_rfl) rfl #[.pointer (some ⟨w.heap.size + 1, 0, none⟩), .agg #[.int .i64 xi, .int .i64 xg, .int .i64 xt, .bool xn, .int .i64 xk, .int .i64 xd]] (by rfl) rfl rfl (by (try simp only [List.map_toArray, List.map_cons, List.map_nil]); first | done | rfl) ?_
              refine (reviveAt HTb.out ⟨⟨xi, xg⟩, ⟨xt, xn, xk, xd⟩⟩ HFx.out).mono ?_
              rintro e w4 ⟨rfl, ht4, hc4⟩
              refine ⟨_, rfl, ?_⟩
              have HTc := Lib.hid ht4
              have HCc := Lib.hid hc4
              have HXn := Lib.hid (HXc.out.keep hc4 (fun ho => by have := (HOlt.out _ ho); omega))
              clear ht4 hc4
              obtain ⟨ad2, hA2, q0, q1, y3, q3, q4, q5⟩ := row_at (Kd.C_below H2.out (Chg.onto HBb.out HCc.out (Nat.le_refl _) (fun j hj h => by have := (HOb.out j h).1; omega))) HY.out
              cases hA2
              clear q0 q1 q3 q4 q5
              dsimp only at y3
              refine hK.out _ _ ⟨HXn.out.cell (j := 0) rfl, HXn.out.cell (j := 1) rfl, HXn.out.cell (j := 2) rfl, HXn.out.cell (j := 3) rfl, HXn.out.cell (j := 4) rfl, HXn.out.cell (j := 5) rfl, y3⟩ (fun hNew => ?_)
              clear hK K hHeld
              have hHeld := hNew
              clear hNew
              refine norm_ (a' := ?_) ?_ ?_
              rotate_left
              · show Act.put _ (some 101) _ = _
                simp only [Act.put, List.setIfInBounds_toArray, List.set_cons_zero, List.set_cons_succ]
                rfl
              refine pure_ (i := 19) (N := some 102) (v := ?_) (a' := ?_) #[true, true, true, true, true, true, true, true, true, true, true, true, true, true, true, true, true, true, true, true, false] rfl rfl (any_of HT_.out (by kernel_rfl)) (fun _ _ _ h => h) (Or.inl ⟨by rfl, ?_⟩) ?_ ?_
              rotate_left
              · intro w'
                go_simp
                with_reducible rfl
              rotate_left
              · simp only [Act.put, List.setIfInBounds_toArray, List.set_cons_zero, List.set_cons_succ]
                rfl
              refine pure_ (i := 20) (N := some 103) (v := ?_) (a' := ?_) #[true, true, true, true, true, true, true, true, true, true, true, true, true, true, true, true, true, true, true, true, true] rfl rfl (any_of HT_.out (by kernel_rfl)) (fun _ _ _ h => h) (Or.inl ⟨by rfl, ?_⟩) ?_ ?_
              rotate_left
              · intro w'
                go_simp
                with_reducible rfl
              rotate_left
              · simp only [Act.put, List.setIfInBounds_toArray, List.set_cons_zero, List.set_cons_succ]
                rfl
              refine done_ (done_of HT_.out (by kernel_rfl)) ?_
              clear hHeld HT_ HW_ y2 y3
              by_cases hE : reviveE t ⟨⟨xi, xg⟩, ⟨xt, xn, xk, xd⟩⟩ = 0
              · have t7 : (reviveE t ⟨⟨xi, xg⟩, ⟨xt, xn, xk, xd⟩⟩ == 0) = true := beq_iff_eq.2 hE
                have hR2 : revs t (prevT l k) (l.drop k) = revs (reviveT t ⟨⟨xi, xg⟩, ⟨xt, xn, xk, xd⟩⟩) (prevT l (k + 1)) (l.drop (k + 1)) := by rw [drop_at HX.out, prevT_succ HX.out]; exact revs_ok (by rw [HPr.out]; simp; exact (by have := Hyx.out; omega)) hE
                have HR2 := Lib.hid hR2
                have HB4 := Lib.hid (Chg.onto HBb.out HCc.out (Nat.le_refl _) (fun j hj h => by have := (HOb.out j h).1; omega))
                clear hE hR2
                generalize reviveE t ⟨⟨xi, xg⟩, ⟨xt, xn, xk, xd⟩⟩ = E at *
                go_wp2_with fail
                go_roundw
                case rel => exact ⟨k + 1, _, O, by omega, by go_num, HRv.out.trans HR2.out, HTc.out, fun j hj => ⟨(HOb.out j hj).1, Nat.lt_of_lt_of_le (HOb.out j hj).2 HCc.out.size⟩, HB4.out⟩
                case measure => simp [intOf]; omega
              · have t7 : (reviveE t ⟨⟨xi, xg⟩, ⟨xt, xn, xk, xd⟩⟩ == 0) = false := beq_eq_false_iff_ne.2 hE
                have hR2 : revs t (prevT l k) (l.drop k) = none := by rw [drop_at HX.out]; exact revs_bad (Or.inr hE)
                have HR2 := Lib.hid hR2
                have HB4 := Lib.hid (Chg.onto HBb.out HCc.out (Nat.le_refl _) (fun j hj h => by have := (HOb.out j h).1; omega))
                clear hE hR2
                generalize reviveE t ⟨⟨xi, xg⟩, ⟨xt, xn, xk, xd⟩⟩ = E at *
                go_wp2_with fail
                go_ret2
                exact ⟨HB4.out, Or.inl ⟨HMk.out.trans (HRv.out.trans HR2.out), rfl⟩⟩
          · have HOlt := HOl0
            have b4 : decide ((0 : Int) < k) = false := decide_eq_false (by omega)
            have b6 : decide (0 < k) = false := decide_eq_false (by omega)
            have HK0 : Hid (k = 0) := Lib.hid (by omega)
            clear hp0
            refine start_ (n := 21) (S := fun w' => w'.cell? ⟨wr.heap.size, 0, none⟩ = some (.int .i64 xi) ∧ w'.cell? ⟨wr.heap.size, 1, none⟩ = some (.int .i64 xg) ∧ w'.cell? ⟨wr.heap.size, 2, none⟩ = some (.int .i64 xt) ∧ w'.cell? ⟨wr.heap.size, 3, none⟩ = some (.bool xn) ∧ w'.cell? ⟨wr.heap.size, 4, none⟩ = some (.int .i64 xk) ∧ w'.cell? ⟨wr.heap.size, 5, none⟩ = some (.int .i64 xd)) (ds := []) #[false, false, false, false, false, false, false, false, false, false, false, false, false, false, false, false, false, false, false, false, false] (by kernel_rfl) rfl rfl ⟨HXc.out.cell (j := 0) rfl, HXc.out.cell (j := 1) rfl, HXc.out.cell (j := 2) rfl, HXc.out.cell (j := 3) rfl, HXc.out.cell (j := 4) rfl, HXc.out.cell (j := 5) rfl⟩ (fun hHeld => ?_); refine with_tabW tab16_16 bits16_16 (fun HT_ HW_ => ?_)
            generalize wa.drew = wd at HXc HTb HBb HOb hHeld ⊢
            refine pure_ (i := 0) (N := some 83) (v := ?_) (a' := ?_) #[true, false, false, false, false, false, false, false, false, false, false, false, false, false, false, false, false, false, false, false, false] rfl rfl (any_of HT_.out (by kernel_rfl)) (fun _ _ _ h => h) (Or.inl ⟨by rfl, ?_⟩) ?_ ?_
            rotate_left
            · intro w'
              go_simp
              with_reducible rfl
            rotate_left
            · simp only [Act.put, List.setIfInBounds_toArray, List.set_cons_zero, List.set_cons_succ]
              rfl
            refine pure_ (i := 1) (N := some 84) (v := ?_) (a' := ?_) #[true, true, false, false, false, false, false, false, false, false, false, false, false, false, false, false, false, false, false, false, false] rfl rfl (any_of HT_.out (by kernel_rfl)) (fun _ _ _ h => h) (Or.inl ⟨by rfl, ?_⟩) ?_ ?_
            rotate_left
            · intro w'
              go_simp
              with_reducible rfl
            rotate_left
            · simp only [Act.put, List.setIfInBounds_toArray, List.set_cons_zero, List.set_cons_succ]
              rfl
            refine pure_ (i := 2) (N := some 85) (v := ?_) (a' := ?_) #[true, true, true, false, false, false, false, false, false, false, false, false, false, false, false, false, false, false, false, false, false] rfl rfl (any_of HT_.out (by kernel_rfl)) (fun _ _ _ h => h) (Or.inl ⟨by rfl, ?_⟩) ?_ ?_
            rotate_left
            · intro w'
              go_simp
              with_reducible rfl
            rotate_left
            · simp only [Act.put, List.setIfInBounds_toArray, List.set_cons_zero, List.set_cons_succ]
              rfl
            refine pure_ (i := 3) (N := some 86) (v := undef) (a' := ?_) #[true, true, true, true, false, false, false, false, false, false, false, false, false, false, false, false, false, false, false, false, false] rfl rfl (any_of HT_.out (by kernel_rfl)) (fun _ _ _ h => h) (Or.inr ⟨by rfl, rfl⟩) ?_ ?_
            rotate_left
            · simp only [Act.put, List.setIfInBounds_toArray, List.set_cons_zero, List.set_cons_succ]
              rfl
            refine pure_ (i := 4) (N := some 87) (v := undef) (a' := ?_) #[true, true, true, true, true, false, false, false, false, false, false, false, false, false, false, false, false, false, false, false, false] rfl rfl (any_of HT_.out (by kernel_rfl)) (fun _ _ _ h => h) (Or.inr ⟨by rfl, rfl⟩) ?_ ?_
            rotate_left
            · simp only [Act.put, List.setIfInBounds_toArray, List.set_cons_zero, List.set_cons_succ]
              rfl
            refine pure_ (i := 5) (N := some 88) (v := undef) (a' := ?_) #[true, true, true, true, true, true, false, false, false, false, false, false, false, false, false, false, false, false, false, false, false] rfl rfl (any_of HT_.out (by kernel_rfl)) (fun _ _ _ h => h) (Or.inr ⟨by rfl, rfl⟩) ?_ ?_
            rotate_left
            · simp only [Act.put, List.setIfInBounds_toArray, List.set_cons_zero, List.set_cons_succ]
              rfl
            refine pure_ (i := 6) (N := some 89) (v := undef) (a' := ?_) #[true, true, true, true, true, true, true, false, false, false, false, false, false, false, false, false, false, false, false, false, false] rfl rfl (any_of HT_.out (by kernel_rfl)) (fun _ _ _ h => h) (Or.inr ⟨by rfl, rfl⟩) ?_ ?_
            rotate_left
            · simp only [Act.put, List.setIfInBounds_toArray, List.set_cons_zero, List.set_cons_succ]
              rfl
            refine pure_ (i := 7) (N := some 90) (v := undef) (a' := ?_) #[true, true, true, true, true, true, true, true, false, false, false, false, false, false, false, false, false, false, false, false, false] rfl rfl (any_of HT_.out (by kernel_rfl)) (fun _ _ _ h => h) (Or.inr ⟨by rfl, rfl⟩) ?_ ?_
            rotate_left
            · simp only [Act.put, List.setIfInBounds_toArray, List.set_cons_zero, List.set_cons_succ]
              rfl
            refine pure_ (i := 8) (N := some 91) (v := undef) (a' := ?_) #[true, true, true, true, true, true, true, true, true, false, false, false, false, false, false, false, false, false, false, false, false] rfl rfl (any_of HT_.out (by kernel_rfl)) (fun _ _ _ h => h) (Or.inr ⟨by rfl, rfl⟩) ?_ ?_
            rotate_left
            · simp only [Act.put, List.setIfInBounds_toArray, List.set_cons_zero, List.set_cons_succ]
              rfl
            refine pure_ (i := 10) (N := some 93) (v := undef) (a' := ?_) #[true, true, true, true, true, true, true, true, true, false, true, false, false, false, false, false, false, false, false, false, false] rfl rfl (any_of HT_.out (by kernel_rfl)) (fun _ _ _ h => h) (Or.inr ⟨by rfl, rfl⟩) ?_ ?_
            rotate_left
            · simp only [Act.put, List.setIfInBounds_toArray, List.set_cons_zero, List.set_cons_succ]
              rfl
            refine pure_ (i := 11) (N := some 94) (v := undef) (a' := ?_) #[true, true, true, true, true, true, true, true, true, false, true, true, false, false, false, false, false, false, false, false, false] rfl rfl (any_of HT_.out (by kernel_rfl)) (fun _ _ _ h => h) (Or.inr ⟨by rfl, rfl⟩) ?_ ?_
            rotate_left
            · simp only [Act.put, List.setIfInBounds_toArray, List.set_cons_zero, List.set_cons_succ]
              rfl
            refine pure_ (i := 9) (N := some 92) (v := undef) (a' := ?_) #[true, true, true, true, true, true, true, true, true, true, true, true, false, false, false, false, false, false, false, false, false] rfl rfl (any_of HT_.out (by kernel_rfl)) (fun _ _ _ h => h) (Or.inr ⟨by rfl, rfl⟩) ?_ ?_
            rotate_left
            · simp only [Act.put, List.setIfInBounds_toArray, List.set_cons_zero, List.set_cons_succ]
              rfl
            refine pure_ (i := 12) (N := some 95) (v := undef) (a' := ?_) #[true, true, true, true, true, true, true, true, true, true, true, true, true, false, false, false, false, false, false, false, false] rfl rfl (any_of HT_.out (by kernel_rfl)) (fun _ _ _ h => h) (Or.inr ⟨by rfl, rfl⟩) ?_ ?_
            rotate_left
            · simp only [Act.put, List.setIfInBounds_toArray, List.set_cons_zero, List.set_cons_succ]
              rfl
            refine pure_ (i := 13) (N := some 96) (v := undef) (a' := ?_) #[true, true, true, true, true, true, true, true, true, true, true, true, true, true, false, false, false, false, false, false, false] rfl rfl (any_of HT_.out (by kernel_rfl)) (fun _ _ _ h => h) (Or.inr ⟨by rfl, rfl⟩) ?_ ?_
            rotate_left
            · simp only [Act.put, List.setIfInBounds_toArray, List.set_cons_zero, List.set_cons_succ]
              rfl
            refine pure_ (i := 14) (N := some 97) (v := ?_) (a' := ?_) #[true, true, true, true, true, true, true, true, true, true, true, true, true, true, true, false, false, false, false, false, false] rfl rfl (any_of HT_.out (by kernel_rfl)) (fun _ _ _ h => h) (Or.inl ⟨by rfl, ?_⟩) ?_ ?_
            rotate_left
            · intro w'
              go_simp
              with_reducible rfl
            rotate_left
            · simp only [Act.put, List.setIfInBounds_toArray, List.set_cons_zero, List.set_cons_succ]
              rfl
            refine pure_ (i := 15) (N := some 98) (v := ?_) (a' := ?_) #[true, true, true, true, true, true, true, true, true, true, true, true, true, true, true, true, false, false, false, false, false] rfl rfl (any_of HT_.out (by kernel_rfl)) (fun _ _ _ h => h) (Or.inl ⟨by rfl, ?_⟩) ?_ ?_
            rotate_left
            · intro w'
              go_simp
              with_reducible rfl
            rotate_left
            · simp only [Act.put, List.setIfInBounds_toArray, List.set_cons_zero, List.set_cons_succ]
              rfl
            refine pure_ (i := 16) (N := some 99) (v := ?_) (a' := ?_) #[true, true, true, true, true, true, true, true, true, true, true, true, true, true, true, true, true, false, false, false, false] rfl rfl (any_of HT_.out (by kernel_rfl)) (fun _ _ _ h => h) (Or.inl ⟨by rfl, ?_⟩) ?_ ?_
            rotate_left
            · intro w'
              go_simp
              with_reducible rfl
            rotate_left
            · simp only [Act.put, List.setIfInBounds_toArray, List.set_cons_zero, List.set_cons_succ]
              rfl
            refine take_ (i := 17) (N := some 100) (v := ?_) (a' := ?_) #[true, true, true, true, true, true, true, true, true, true, true, true, true, true, true, true, true, true, false, false, false] rfl rfl (take_ofW HT_.out HW_.out (by kernel_rfl)) (fun _ _ _ h => h) (Or.inl ⟨by rfl, ?_⟩) hHeld ?_ ?_
            rotate_left
            · rintro w' ⟨s0, s1, s2, s3, s4, s5⟩
              go_simp
              with_reducible rfl
            rotate_left
            · simp only [Act.put, List.setIfInBounds_toArray, List.set_cons_zero, List.set_cons_succ]
              rfl
            refine one_ (i := 18) (N := some 101) #[true, true, true, true, true, true, true, true, true, true, true, true, true, true, true, true, true, true, true, false, false] rfl rfl (one_of HT_.out (by kernel_rfl)) (by decide) (fun K hK => ?_)
            refine goes_ Try.func13 (by kernel_rfl) rfl #[.pointer (some ⟨w.heap.size + 1, 0, none⟩), .agg #[.int .i64 xi, .int .i64 xg, .int .i64 xt, .bool xn, .int .i64 xk, .int .i64 xd]] (by rfl) rfl rfl (by (try simp only [List.map_toArray, List.map_cons, List.map_nil]); first | done | rfl) ?_
            refine (reviveAt HTb.out ⟨⟨xi, xg⟩, ⟨xt, xn, xk, xd⟩⟩ HFx.out).mono ?_
            rintro e w4 ⟨rfl, ht4, hc4⟩
            refine ⟨_, rfl, ?_⟩
            have HTc := Lib.hid ht4
            have HCc := Lib.hid hc4
            have HXn := Lib.hid (HXc.out.keep hc4 (fun ho => by have := (HOlt.out _ ho); omega))
            clear ht4 hc4
            refine hK.out _ _ ⟨HXn.out.cell (j := 0) rfl, HXn.out.cell (j := 1) rfl, HXn.out.cell (j := 2) rfl, HXn.out.cell (j := 3) rfl, HXn.out.cell (j := 4) rfl, HXn.out.cell (j := 5) rfl⟩ (fun hNew => ?_)
            clear hK K hHeld
            have hHeld := hNew
            clear hNew
            refine norm_ (a' := ?_) ?_ ?_
            rotate_left
            · show Act.put _ (some 101) _ = _
              simp only [Act.put, List.setIfInBounds_toArray, List.set_cons_zero, List.set_cons_succ]
              rfl
            refine pure_ (i := 19) (N := some 102) (v := ?_) (a' := ?_) #[true, true, true, true, true, true, true, true, true, true, true, true, true, true, true, true, true, true, true, true, false] rfl rfl (any_of HT_.out (by kernel_rfl)) (fun _ _ _ h => h) (Or.inl ⟨by rfl, ?_⟩) ?_ ?_
            rotate_left
            · intro w'
              go_simp
              with_reducible rfl
            rotate_left
            · simp only [Act.put, List.setIfInBounds_toArray, List.set_cons_zero, List.set_cons_succ]
              rfl
            refine pure_ (i := 20) (N := some 103) (v := ?_) (a' := ?_) #[true, true, true, true, true, true, true, true, true, true, true, true, true, true, true, true, true, true, true, true, true] rfl rfl (any_of HT_.out (by kernel_rfl)) (fun _ _ _ h => h) (Or.inl ⟨by rfl, ?_⟩) ?_ ?_
            rotate_left
            · intro w'
              go_simp
              with_reducible rfl
            rotate_left
            · simp only [Act.put, List.setIfInBounds_toArray, List.set_cons_zero, List.set_cons_succ]
              rfl
            refine done_ (done_of HT_.out (by kernel_rfl)) ?_
            clear hHeld HT_ HW_
            by_cases hE : reviveE t ⟨⟨xi, xg⟩, ⟨xt, xn, xk, xd⟩⟩ = 0
            · have t7 : (reviveE t ⟨⟨xi, xg⟩, ⟨xt, xn, xk, xd⟩⟩ == 0) = true := beq_iff_eq.2 hE
              have hR2 : revs t (prevT l k) (l.drop k) = revs (reviveT t ⟨⟨xi, xg⟩, ⟨xt, xn, xk, xd⟩⟩) (prevT l (k + 1)) (l.drop (k + 1)) := by rw [drop_at HX.out, prevT_succ HX.out]; exact revs_ok (by unfold prevT; rw [if_pos HK0.out]; simp) hE
              have HR2 := Lib.hid hR2
              have HB4 := Lib.hid (Chg.onto HBb.out HCc.out (Nat.le_refl _) (fun j hj h => by have := (HOb.out j h).1; omega))
              clear hE hR2
              generalize reviveE t ⟨⟨xi, xg⟩, ⟨xt, xn, xk, xd⟩⟩ = E at *
              go_wp2_with fail
              go_roundw
              case rel => exact ⟨k + 1, _, O, by omega, by go_num, HRv.out.trans HR2.out, HTc.out, fun j hj => ⟨(HOb.out j hj).1, Nat.lt_of_lt_of_le (HOb.out j hj).2 HCc.out.size⟩, HB4.out⟩
              case measure => simp [intOf]; omega
            · have t7 : (reviveE t ⟨⟨xi, xg⟩, ⟨xt, xn, xk, xd⟩⟩ == 0) = false := beq_eq_false_iff_ne.2 hE
              have hR2 : revs t (prevT l k) (l.drop k) = none := by rw [drop_at HX.out]; exact revs_bad (Or.inr hE)
              have HR2 := Lib.hid hR2
              have HB4 := Lib.hid (Chg.onto HBb.out HCc.out (Nat.le_refl _) (fun j hj h => by have := (HOb.out j h).1; omega))
              clear hE hR2
              generalize reviveE t ⟨⟨xi, xg⟩, ⟨xt, xn, xk, xd⟩⟩ = E at *
              go_wp2_with fail
              go_ret2
              exact ⟨HB4.out, Or.inl ⟨HMk.out.trans (HRv.out.trans HR2.out), rfl⟩⟩
        · have hR2 : revs t (prevT l k) (l.drop k) = some t := by rw [List.drop_of_length_le (by omega)]; unfold revs; rfl
          have HR2 := Lib.hid hR2
          clear hR2
          go_wp2_with fail
          go_ret2
          exact ⟨HB.out, Or.inr ⟨_, O, t, HMk.out.trans (HRv.out.trans HR2.out), rfl, HTa.out, fun j hj => (HO.out j hj).1⟩⟩
end Go.Proofs.Ytccfjjaljckinaa.Tag
