/- The document's Right: the head's refusals, walked. No conditions. -/
import Derived.Test.YtccfjjaljckinaaRRightPM
import Derived.Test.YtccfjjaljckinaaRMakeAM
import Derived.LoopTactic
import Derived.IntWalk
import Derived.Deep.QuietTactic
import Derived.BigQuiet
namespace Go.Proofs.Ytccfjjaljckinaa.Tag
open Go.RowKit Go.Lib Go.Shelf Go.Proofs.Ytccfjjaljckinaa.Mem Go.Proofs.Ytccfjjaljckinaa.IMap Go.Proofs.YtccfjjaljckinaaW.PrintWords Go.Proofs.YtccfjjaljckinaaW.PrintLast Go.Proofs.YtccfjjaljckinaaW.PrintMore Go.Proofs.Ytccfjjaljckinaa.PTagActs
set_option linter.unusedVariables false

def RightPost (cap serial : Int) (lasts : List Int) (l : List Listed) (w : World) (e : Ending) (w' : World) : Prop := ∃ b, e = .returned (.bool b) ∧ (b = true ↔ RightP cap serial lasts l) ∧ Below w.heap.size w w'

set_option maxRecDepth 100000 in
set_option maxHeartbeats 4000000 in
theorem right_a {w : World} {cap serial : Int} {A1 A2 : Option Addr} {c1 c2 : Nat} {lasts : List Int} {l : List Listed} (h1 : Kd.C (Kd.int .i64) w A1 lasts.length lasts) (g1 : lasts.length ≤ c1) (h2 : Kd.C k34 w A2 l.length (sL l)) (g2 : l.length ≤ c2) (hn1 : lasts.length ≤ 1000) (hn2 : l.length ≤ 1000) (b1 : cap < 0) :
    Calls Try.prog 17 #[.agg #[.int .i64 cap, .int .i64 serial, .slice A1 lasts.length c1, .slice A2 l.length c2]] w (RightPost cap serial lasts l w) := by
  have HR : Hid (¬ RightP cap serial lasts l) := Lib.hid (fun h => h.1 (Or.inl b1))
  have hu49 := Try.underlying49
  have hu34 := Try.underlying34
  have hu32 := Try.underlying32
  have hu30 := Try.underlying30
  have hu28 := Try.underlying28
  have t1 : decide (cap < 0) = true := decide_eq_true (by omega)
  clear h1 h2 g1 g2
  go_enter Try.func17, Try.ntmps17
  go_wp2_with fail
  go_ret
  exact ⟨false, rfl, ⟨fun h => (by cases h), fun h => absurd h HR.out⟩, (Below.refl _ _).alloc (Nat.le_refl _) _⟩

set_option maxRecDepth 100000 in
set_option maxHeartbeats 4000000 in
theorem right_b {w : World} {cap serial : Int} {A1 A2 : Option Addr} {c1 c2 : Nat} {lasts : List Int} {l : List Listed} (h1 : Kd.C (Kd.int .i64) w A1 lasts.length lasts) (g1 : lasts.length ≤ c1) (h2 : Kd.C k34 w A2 l.length (sL l)) (g2 : l.length ≤ c2) (hn1 : lasts.length ≤ 1000) (hn2 : l.length ≤ 1000) (b1 : ¬ cap < 0) (b2 : 65536 < cap) :
    Calls Try.prog 17 #[.agg #[.int .i64 cap, .int .i64 serial, .slice A1 lasts.length c1, .slice A2 l.length c2]] w (RightPost cap serial lasts l w) := by
  have HR : Hid (¬ RightP cap serial lasts l) := Lib.hid (fun h => h.1 (Or.inr (Or.inl b2)))
  have hu49 := Try.underlying49
  have hu34 := Try.underlying34
  have hu32 := Try.underlying32
  have hu30 := Try.underlying30
  have hu28 := Try.underlying28
  have t1 : decide (cap < 0) = false := decide_eq_false (by omega)
  have t2 : decide (cap > 65536) = true := decide_eq_true (by omega)
  clear h1 h2 g1 g2
  go_enter Try.func17, Try.ntmps17
  go_wp2_with fail
  go_ret
  exact ⟨false, rfl, ⟨fun h => (by cases h), fun h => absurd h HR.out⟩, (Below.refl _ _).alloc (Nat.le_refl _) _⟩

set_option maxRecDepth 100000 in
set_option maxHeartbeats 4000000 in
theorem right_c {w : World} {cap serial : Int} {A1 A2 : Option Addr} {c1 c2 : Nat} {lasts : List Int} {l : List Listed} (h1 : Kd.C (Kd.int .i64) w A1 lasts.length lasts) (g1 : lasts.length ≤ c1) (h2 : Kd.C k34 w A2 l.length (sL l)) (g2 : l.length ≤ c2) (hn1 : lasts.length ≤ 1000) (hn2 : l.length ≤ 1000) (b1 : ¬ cap < 0) (b2 : ¬ 65536 < cap) (b3 : serial < 0) :
    Calls Try.prog 17 #[.agg #[.int .i64 cap, .int .i64 serial, .slice A1 lasts.length c1, .slice A2 l.length c2]] w (RightPost cap serial lasts l w) := by
  have HR : Hid (¬ RightP cap serial lasts l) := Lib.hid (fun h => h.1 (Or.inr (Or.inr (Or.inl b3))))
  have hu49 := Try.underlying49
  have hu34 := Try.underlying34
  have hu32 := Try.underlying32
  have hu30 := Try.underlying30
  have hu28 := Try.underlying28
  have t1 : decide (cap < 0) = false := decide_eq_false (by omega)
  have t2 : decide (cap > 65536) = false := decide_eq_false (by omega)
  have t3 : decide (serial < 0) = true := decide_eq_true (by omega)
  clear h1 h2 g1 g2
  go_enter Try.func17, Try.ntmps17
  go_wp2_with fail
  go_ret
  exact ⟨false, rfl, ⟨fun h => (by cases h), fun h => absurd h HR.out⟩, (Below.refl _ _).alloc (Nat.le_refl _) _⟩

set_option maxRecDepth 100000 in
set_option maxHeartbeats 4000000 in
theorem right_e {w : World} {cap serial : Int} {A1 A2 : Option Addr} {c1 c2 : Nat} {lasts : List Int} {l : List Listed} (h1 : Kd.C (Kd.int .i64) w A1 lasts.length lasts) (g1 : lasts.length ≤ c1) (h2 : Kd.C k34 w A2 l.length (sL l)) (g2 : l.length ≤ c2) (hn1 : lasts.length ≤ 1000) (hn2 : l.length ≤ 1000) (b1 : ¬ cap < 0) (b2 : ¬ 65536 < cap) (b3 : ¬ serial < 0) (b5 : cap < l.length) :
    Calls Try.prog 17 #[.agg #[.int .i64 cap, .int .i64 serial, .slice A1 lasts.length c1, .slice A2 l.length c2]] w (RightPost cap serial lasts l w) := by
  have HR : Hid (¬ RightP cap serial lasts l) := Lib.hid (fun h => h.1 (Or.inr (Or.inr (Or.inr (Or.inr b5)))))
  have hu49 := Try.underlying49
  have hu34 := Try.underlying34
  have hu32 := Try.underlying32
  have hu30 := Try.underlying30
  have hu28 := Try.underlying28
  have t1 : decide (cap < 0) = false := decide_eq_false (by omega)
  have t2 : decide (cap > 65536) = false := decide_eq_false (by omega)
  have t3 : decide (serial < 0) = false := decide_eq_false (by omega)
  have t5 : decide ((l.length : Int) > cap) = true := decide_eq_true (by omega)
  clear h1 h2 g1 g2
  go_enter Try.func17, Try.ntmps17
  go_wp2_with fail
  go_ret
  exact ⟨false, rfl, ⟨fun h => (by cases h), fun h => absurd h HR.out⟩, (Below.refl _ _).alloc (Nat.le_refl _) _⟩

set_option maxRecDepth 100000 in
set_option maxHeartbeats 4000000 in
theorem right_d {w : World} {cap serial : Int} {A1 A2 : Option Addr} {c1 c2 : Nat} {lasts : List Int} {l : List Listed} (h1 : Kd.C (Kd.int .i64) w A1 lasts.length lasts) (g1 : lasts.length ≤ c1) (h2 : Kd.C k34 w A2 l.length (sL l)) (g2 : l.length ≤ c2) (hn1 : lasts.length ≤ 1000) (hn2 : l.length ≤ 1000) (b1 : ¬ cap < 0) (b2 : ¬ 65536 < cap) (b3 : ¬ serial < 0) (b5 : ¬ cap < l.length) (b4 : lasts.getLast? = some 0) :
    Calls Try.prog 17 #[.agg #[.int .i64 cap, .int .i64 serial, .slice A1 lasts.length c1, .slice A2 l.length c2]] w (RightPost cap serial lasts l w) := by
  have HR : Hid (¬ RightP cap serial lasts l) := Lib.hid (fun h => h.1 (Or.inr (Or.inr (Or.inr (Or.inl b4)))))
  have hu49 := Try.underlying49
  have hu34 := Try.underlying34
  have hu32 := Try.underlying32
  have hu30 := Try.underlying30
  have hu28 := Try.underlying28
  have t1 : decide (cap < 0) = false := decide_eq_false (by omega)
  have t2 : decide (cap > 65536) = false := decide_eq_false (by omega)
  have t3 : decide (serial < 0) = false := decide_eq_false (by omega)
  have t5 : decide ((l.length : Int) > cap) = false := decide_eq_false (by omega)
  have hlp : 0 < lasts.length := by cases lasts with | nil => simp at b4 | cons a r => simp
  rw [getLast_at hlp] at b4
  obtain ⟨ae, hA, m0⟩ := irow_at h1 b4
  subst hA
  have t4 : decide ((lasts.length : Int) > 0) = true := decide_eq_true (by omega)
  have hw0 : wrap64 ((lasts.length : Int) - 1) = ((lasts.length - 1 : Nat) : Int) := by unfold wrap64; omega
  have hw2 : (lasts.length : Int) - 1 = ((lasts.length - 1 : Nat) : Int) := by omega
  have hw3 : (0 : Int) ≤ ((lasts.length - 1 : Nat) : Int) := by omega
  have hw4 : ((lasts.length - 1 : Nat) : Int) < lasts.length := by omega
  have hw5 : (((lasts.length - 1 : Nat) : Int)).toNat = lasts.length - 1 := by omega
  have hael : (ae.add (lasts.length - 1)).block < w.heap.size := World.block_lt_of_cell? _ _ m0
  have haen : (ae.add (lasts.length - 1)).block ≠ w.heap.size := by omega
  clear h1 h2 g1 g2 b4 hlp
  go_enter Try.func17, Try.ntmps17
  go_wp2_with fail
  go_ret
  exact ⟨false, rfl, ⟨fun h => (by cases h), fun h => absurd h HR.out⟩, (Below.refl _ _).alloc (Nat.le_refl _) _⟩
end Go.Proofs.Ytccfjjaljckinaa.Tag
