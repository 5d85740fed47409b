/- The first entries of a row: what slot and ID tell of them. No conditions. -/
import Derived.Test.YtccfjjaljckinaaRRightPM
namespace Go.Proofs.Ytccfjjaljckinaa.Tag
open Go.RowKit Go.Lib Go.Proofs.Ytccfjjaljckinaa.Mem Go.Proofs.Ytccfjjaljckinaa.IMap Go.Proofs.YtccfjjaljckinaaW.PrintWords Go.Proofs.Ytccfjjaljckinaa.PTagActs
set_option linter.unusedVariables false
theorem cL_take {w : World} {A : Option Addr} {l : List Listed} {k : Nat} (h : Kd.C k34 w A l.length (sL l)) (hk : k ≤ l.length) : Kd.C k34 w A (l.take k).length (sL (l.take k)) := by
  have e : (sL l).length = l.length := List.length_map _
  rw [← e] at h
  have h2 := Kd.C_take h (m := k) (by rw [e]; exact hk)
  have e2 : (sL l).take k = sL (l.take k) := by unfold sL; rw [List.map_take]
  rw [e2] at h2
  have e3 : (sL (l.take k)).length = (l.take k).length := List.length_map _
  rw [e3] at h2
  exact h2
theorem slotK {w : World} {A : Option Addr} {l : List Listed} {k c : Nat} (h : Kd.C k34 w A l.length (sL l)) (hk : k ≤ l.length) (hc : l.length ≤ c) (hl : l.length ≤ 1000000) (x : Int) {b : Bool} (hb : (l.take k).any (fun y => y.r.i == x) = b) :
    Calls Try.prog 34 #[.slice A k c, .int .i64 x] w fun e w' => e = .returned (.bool b) ∧ ∃ q, w' = w.drewN q := by
  have e : (l.take k).length = k := by rw [List.length_take]; omega
  have := refSlot_ (cL_take h hk) (c := c) (by omega) (by omega) x
  rw [hb, e] at this
  exact this
theorem idK {w : World} {A : Option Addr} {l : List Listed} {k c : Nat} (h : Kd.C k34 w A l.length (sL l)) (hk : k ≤ l.length) (hc : l.length ≤ c) (hl : l.length ≤ 1000000) (x : Int) {b : Bool} (hb : (l.take k).any (fun y => y.o.id == x) = b) :
    Calls Try.prog 35 #[.slice A k c, .int .i64 x] w fun e w' => e = .returned (.bool b) ∧ ∃ q, w' = w.drewN q := by
  have e : (l.take k).length = k := by rw [List.length_take]; omega
  have := refID_ (cL_take h hk) (c := c) (by omega) (by omega) x
  rw [hb, e] at this
  exact this
end Go.Proofs.Ytccfjjaljckinaa.Tag
