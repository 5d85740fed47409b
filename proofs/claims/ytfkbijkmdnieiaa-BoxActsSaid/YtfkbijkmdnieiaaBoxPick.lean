/- Pick of four boxes of which the third is nobody's, and the document's answer to it. No conditions. -/
import Derived.Test.YtfkbijkmdnieiaaBoxRef
import Derived.LoopN
namespace Go.Proofs.Ytfkbijkmdnieiaa.BoxRef
open Go.RowKit Go.Conc Go.Proofs.Ytfkbijkmdnieiaa.Mem Go.Proofs.Ytfkbijkmdnieiaa.BoxInt Go.Proofs.Ytfkbijkmdnieiaa.PileRef Go.Proofs.Ytfkbijkmdnieiaa.PileInt Go.Proofs.YtfkbijkmdnieiaaW.PrintWords

/-- The place among four, of which the third is nobody's. -/
def place (j : Nat) : Nat := if j = 2 then 3 else j

set_option maxRecDepth 100000 in
set_option maxHeartbeats 2000000 in
theorem pick_none (g B0 C0 D0 n0 B1 C1 D1 n1 B2 C2 D2 n2 : Nat) (c0 c1 c2 : Bool) (w : World) (b0 : IsBox w B0 C0 D0 n0 [] c0) (b1 : IsBox w B1 C1 D1 n1 [] c1) (b2 : IsBox w B2 C2 D2 n2 [] c2)
    (h0 : w.cell? ⟨g, 0, none⟩ = some (.pointer (some ⟨B0, 0, none⟩))) (h1 : w.cell? ⟨g, 1, none⟩ = some (.pointer (some ⟨B1, 0, none⟩))) (h2 : w.cell? ⟨g, 2, none⟩ = some (.pointer none)) (h3 : w.cell? ⟨g, 3, none⟩ = some (.pointer (some ⟨B2, 0, none⟩))) :
    Calls Try.prog 62 #[.slice (some ⟨g, 0, none⟩) 4 4] w fun e w' => e = .returned (.tuple #[.int .i64 0, .int .i64 (-1), .bool false]) ∧ w = w' := by
  have H0 := Lib.hid b0; have H1 := Lib.hid b1; have H2 := Lib.hid b2
  clear b0 b1 b2
  go_enter Try.func62, Try.ntmps62
  go_wp2
  refine wp_loop_rounds 5 ?_
  rw [rounds_succ]
  go_wp2_with (go_at_call 48; refine (take_none B0 C0 D0 n0 c0 _ H0.out).mono ?_; rintro e w' ⟨rfl, rfl⟩)
  rw [rounds_succ]
  go_wp2_with (go_at_call 48; refine (take_none B1 C1 D1 n1 c1 _ H1.out).mono ?_; rintro e w' ⟨rfl, rfl⟩)
  rw [rounds_succ]
  go_wp2_with fail
  rw [rounds_succ]
  go_wp2_with (go_at_call 48; refine (take_none B2 C2 D2 n2 c2 _ H2.out).mono ?_; rintro e w' ⟨rfl, rfl⟩)
  rw [rounds_succ]
  go_wp2_with fail
  refine bodyPost_ret (v := .tuple #[.int .i64 0, .int .i64 (-1), .bool false]) (by simp [results, Try.results62, go_sem]) rfl ⟨rfl, rfl⟩
set_option maxRecDepth 100000 in
set_option maxHeartbeats 2000000 in
theorem pick_hit0 (g B0 C0 D0 n0 : Nat) (x : Int) (xs : List Int) (c0 : Bool) (w : World) (b0 : IsBox w B0 C0 D0 n0 (x :: xs) c0)
    (h0 : w.cell? ⟨g, 0, none⟩ = some (.pointer (some ⟨B0, 0, none⟩))) :
    Calls Try.prog 62 #[.slice (some ⟨g, 0, none⟩) 4 4] w fun e w' => e = .returned (.tuple #[.int .i64 x, .int .i64 0, .bool true]) ∧ IsBox w' B0 C0 D0 n0 xs c0 ∧ Chg (fun k => k = C0) w w' := by
  have H0 := Lib.hid b0
  clear b0
  go_enter Try.func62, Try.ntmps62
  go_wp2
  refine wp_loop_rounds 5 ?_
  rw [rounds_succ]
  go_wp2_with (go_at_call 48; refine (take_some B0 C0 D0 n0 x xs c0 _ H0.out).mono ?_; rintro e w' ⟨rfl, hp, hc⟩; have HP := Lib.hid hp; have HC := Lib.hid hc; clear hp hc)
  refine bodyPost_ret (v := .tuple #[.int .i64 x, .int .i64 0, .bool true]) (by simp [results, Try.results62, go_sem]) rfl ⟨rfl, HP.out, HC.out⟩

set_option maxRecDepth 100000 in
set_option maxHeartbeats 2000000 in
theorem pick_hit1 (g B0 C0 D0 n0 B1 C1 D1 n1 : Nat) (x : Int) (xs : List Int) (c0 c1 : Bool) (w : World) (b0 : IsBox w B0 C0 D0 n0 [] c0) (b1 : IsBox w B1 C1 D1 n1 (x :: xs) c1)
    (h0 : w.cell? ⟨g, 0, none⟩ = some (.pointer (some ⟨B0, 0, none⟩))) (h1 : w.cell? ⟨g, 1, none⟩ = some (.pointer (some ⟨B1, 0, none⟩))) :
    Calls Try.prog 62 #[.slice (some ⟨g, 0, none⟩) 4 4] w fun e w' => e = .returned (.tuple #[.int .i64 x, .int .i64 1, .bool true]) ∧ IsBox w' B1 C1 D1 n1 xs c1 ∧ Chg (fun k => k = C1) w w' := by
  have H0 := Lib.hid b0
  have H1 := Lib.hid b1
  clear b0 b1
  go_enter Try.func62, Try.ntmps62
  go_wp2
  refine wp_loop_rounds 5 ?_
  rw [rounds_succ]
  go_wp2_with (go_at_call 48; refine (take_none B0 C0 D0 n0 c0 _ H0.out).mono ?_; rintro e w' ⟨rfl, rfl⟩)
  rw [rounds_succ]
  go_wp2_with (go_at_call 48; refine (take_some B1 C1 D1 n1 x xs c1 _ H1.out).mono ?_; rintro e w' ⟨rfl, hp, hc⟩; have HP := Lib.hid hp; have HC := Lib.hid hc; clear hp hc)
  refine bodyPost_ret (v := .tuple #[.int .i64 x, .int .i64 1, .bool true]) (by simp [results, Try.results62, go_sem]) rfl ⟨rfl, HP.out, HC.out⟩

set_option maxRecDepth 100000 in
set_option maxHeartbeats 2000000 in
theorem pick_hit2 (g B0 C0 D0 n0 B1 C1 D1 n1 B2 C2 D2 n2 : Nat) (x : Int) (xs : List Int) (c0 c1 c2 : Bool) (w : World) (b0 : IsBox w B0 C0 D0 n0 [] c0) (b1 : IsBox w B1 C1 D1 n1 [] c1) (b2 : IsBox w B2 C2 D2 n2 (x :: xs) c2)
    (h0 : w.cell? ⟨g, 0, none⟩ = some (.pointer (some ⟨B0, 0, none⟩))) (h1 : w.cell? ⟨g, 1, none⟩ = some (.pointer (some ⟨B1, 0, none⟩))) (h2 : w.cell? ⟨g, 2, none⟩ = some (.pointer none)) (h3 : w.cell? ⟨g, 3, none⟩ = some (.pointer (some ⟨B2, 0, none⟩))) :
    Calls Try.prog 62 #[.slice (some ⟨g, 0, none⟩) 4 4] w fun e w' => e = .returned (.tuple #[.int .i64 x, .int .i64 3, .bool true]) ∧ IsBox w' B2 C2 D2 n2 xs c2 ∧ Chg (fun k => k = C2) w w' := by
  have H0 := Lib.hid b0
  have H1 := Lib.hid b1
  have H2 := Lib.hid b2
  clear b0 b1 b2
  go_enter Try.func62, Try.ntmps62
  go_wp2
  refine wp_loop_rounds 5 ?_
  rw [rounds_succ]
  go_wp2_with (go_at_call 48; refine (take_none B0 C0 D0 n0 c0 _ H0.out).mono ?_; rintro e w' ⟨rfl, rfl⟩)
  rw [rounds_succ]
  go_wp2_with (go_at_call 48; refine (take_none B1 C1 D1 n1 c1 _ H1.out).mono ?_; rintro e w' ⟨rfl, rfl⟩)
  rw [rounds_succ]
  go_wp2_with fail
  rw [rounds_succ]
  go_wp2_with (go_at_call 48; refine (take_some B2 C2 D2 n2 x xs c2 _ H2.out).mono ?_; rintro e w' ⟨rfl, hp, hc⟩; have HP := Lib.hid hp; have HC := Lib.hid hc; clear hp hc)
  refine bodyPost_ret (v := .tuple #[.int .i64 x, .int .i64 3, .bool true]) (by simp [results, Try.results62, go_sem]) rfl ⟨rfl, HP.out, HC.out⟩

set_option maxRecDepth 100000 in
set_option maxHeartbeats 2000000 in
theorem picked_hit0 (lo g M0 n0 : Nat) (x : Int) (xs : List Int) (c0 : Bool) (w : World) (b0 : IsRef w lo M0 n0 (x :: xs) c0) (h0 : w.cell? ⟨g, 0, none⟩ = some (.pointer (some ⟨M0, 0, none⟩))) (hM : M0 < lo) :
    Calls Try.prog 68 #[.pointer (some ⟨g, 0, none⟩), .int .i64 x, .int .i64 0, .bool true] w fun e w' => e = .returned (.bool true) ∧ IsRef w' lo M0 n0 xs c0 ∧ Chg (fun k => k = M0) w w' := by
  have H0 := Lib.hid b0
  clear b0
  have HM := Lib.hid hM
  clear hM
  go_enter Try.func68, Try.ntmps68
  go_wp2
  refine wp_loop_rounds 5 ?_
  rw [rounds_succ]
  go_wp2_with (go_at_call 66; refine (take_ref_some lo M0 n0 x xs c0 _ H0.out HM.out).mono ?_; rintro e w' ⟨rfl, hp, hc⟩; have HP := Lib.hid hp; have HC := Lib.hid hc; clear hp hc)
  go_ret
  exact ⟨rfl, HP.out, HC.out⟩

set_option maxRecDepth 100000 in
set_option maxHeartbeats 2000000 in
theorem picked_hit1 (lo g M0 n0 M1 n1 : Nat) (x : Int) (xs : List Int) (c0 c1 : Bool) (w : World) (b0 : IsRef w lo M0 n0 [] c0) (b1 : IsRef w lo M1 n1 (x :: xs) c1) (h0 : w.cell? ⟨g, 0, none⟩ = some (.pointer (some ⟨M0, 0, none⟩))) (h1 : w.cell? ⟨g, 1, none⟩ = some (.pointer (some ⟨M1, 0, none⟩))) (hM : M1 < lo) :
    Calls Try.prog 68 #[.pointer (some ⟨g, 0, none⟩), .int .i64 x, .int .i64 1, .bool true] w fun e w' => e = .returned (.bool true) ∧ IsRef w' lo M1 n1 xs c1 ∧ Chg (fun k => k = M1) w w' := by
  have H0 := Lib.hid b0
  have H1 := Lib.hid b1
  clear b0 b1
  have HM := Lib.hid hM
  clear hM
  go_enter Try.func68, Try.ntmps68
  go_wp2
  refine wp_loop_rounds 5 ?_
  rw [rounds_succ]
  go_wp2_with (go_at_call 66; refine (take_ref_none lo M0 n0 c0 _ H0.out).mono ?_; rintro e w' ⟨rfl, rfl⟩)
  rw [rounds_succ]
  go_wp2_with (go_at_call 66; refine (take_ref_some lo M1 n1 x xs c1 _ H1.out HM.out).mono ?_; rintro e w' ⟨rfl, hp, hc⟩; have HP := Lib.hid hp; have HC := Lib.hid hc; clear hp hc)
  go_ret
  exact ⟨rfl, HP.out, HC.out⟩

set_option maxRecDepth 100000 in
set_option maxHeartbeats 2000000 in
theorem picked_hit2 (lo g M0 n0 M1 n1 M2 n2 : Nat) (x : Int) (xs : List Int) (c0 c1 c2 : Bool) (w : World) (b0 : IsRef w lo M0 n0 [] c0) (b1 : IsRef w lo M1 n1 [] c1) (b2 : IsRef w lo M2 n2 (x :: xs) c2) (h0 : w.cell? ⟨g, 0, none⟩ = some (.pointer (some ⟨M0, 0, none⟩))) (h1 : w.cell? ⟨g, 1, none⟩ = some (.pointer (some ⟨M1, 0, none⟩))) (h2 : w.cell? ⟨g, 2, none⟩ = some (.pointer (some ⟨M2, 0, none⟩))) (hM : M2 < lo) :
    Calls Try.prog 68 #[.pointer (some ⟨g, 0, none⟩), .int .i64 x, .int .i64 3, .bool true] w fun e w' => e = .returned (.bool true) ∧ IsRef w' lo M2 n2 xs c2 ∧ Chg (fun k => k = M2) w w' := by
  have H0 := Lib.hid b0
  have H1 := Lib.hid b1
  have H2 := Lib.hid b2
  clear b0 b1 b2
  have HM := Lib.hid hM
  clear hM
  go_enter Try.func68, Try.ntmps68
  go_wp2
  refine wp_loop_rounds 5 ?_
  rw [rounds_succ]
  go_wp2_with (go_at_call 66; refine (take_ref_none lo M0 n0 c0 _ H0.out).mono ?_; rintro e w' ⟨rfl, rfl⟩)
  rw [rounds_succ]
  go_wp2_with (go_at_call 66; refine (take_ref_none lo M1 n1 c1 _ H1.out).mono ?_; rintro e w' ⟨rfl, rfl⟩)
  rw [rounds_succ]
  go_wp2_with (go_at_call 66; refine (take_ref_some lo M2 n2 x xs c2 _ H2.out HM.out).mono ?_; rintro e w' ⟨rfl, hp, hc⟩; have HP := Lib.hid hp; have HC := Lib.hid hc; clear hp hc)
  go_ret
  exact ⟨rfl, HP.out, HC.out⟩

set_option maxRecDepth 100000 in
set_option maxHeartbeats 2000000 in
theorem picked_none (lo g M0 n0 M1 n1 M2 n2 : Nat) (c0 c1 c2 : Bool) (w : World) (b0 : IsRef w lo M0 n0 [] c0) (b1 : IsRef w lo M1 n1 [] c1) (b2 : IsRef w lo M2 n2 [] c2) (h0 : w.cell? ⟨g, 0, none⟩ = some (.pointer (some ⟨M0, 0, none⟩))) (h1 : w.cell? ⟨g, 1, none⟩ = some (.pointer (some ⟨M1, 0, none⟩))) (h2 : w.cell? ⟨g, 2, none⟩ = some (.pointer (some ⟨M2, 0, none⟩))) :
    Calls Try.prog 68 #[.pointer (some ⟨g, 0, none⟩), .int .i64 0, .int .i64 (-1), .bool false] w fun e w' => e = .returned (.bool true) ∧ w = w' := by
  have H0 := Lib.hid b0
  have H1 := Lib.hid b1
  have H2 := Lib.hid b2
  clear b0 b1 b2
  go_enter Try.func68, Try.ntmps68
  go_wp2
  refine wp_loop_rounds 5 ?_
  rw [rounds_succ]
  go_wp2_with (go_at_call 66; refine (take_ref_none lo M0 n0 c0 _ H0.out).mono ?_; rintro e w' ⟨rfl, rfl⟩)
  rw [rounds_succ]
  go_wp2_with (go_at_call 66; refine (take_ref_none lo M1 n1 c1 _ H1.out).mono ?_; rintro e w' ⟨rfl, rfl⟩)
  rw [rounds_succ]
  go_wp2_with (go_at_call 66; refine (take_ref_none lo M2 n2 c2 _ H2.out).mono ?_; rintro e w' ⟨rfl, rfl⟩)
  rw [rounds_succ]
  go_wp2_with fail
  go_ret
  exact ⟨rfl, rfl⟩
end Go.Proofs.Ytfkbijkmdnieiaa.BoxRef
