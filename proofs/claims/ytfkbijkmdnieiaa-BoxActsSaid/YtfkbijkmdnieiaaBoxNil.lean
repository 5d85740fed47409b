/- The law on boxes that are not there answers true. No conditions. -/
import Derived.Test.YtfkbijkmdnieiaaBoxAwake
import Derived.LaidEqlPtr
namespace Go.Proofs.Ytfkbijkmdnieiaa.BoxNil
open Go.RowKit Go.Conc Go.Proofs.Ytfkbijkmdnieiaa.Mem Go.Proofs.Ytfkbijkmdnieiaa.BoxInt Go.Proofs.YtfkbijkmdnieiaaW.PrintWords

set_option maxRecDepth 100000 in
set_option maxHeartbeats 400000 in
theorem pick_empty (w : World) : Calls Try.prog 62 #[.slice none 0 0] w fun e w' => e = .returned (.tuple #[.int .i64 0, .int .i64 (-1), .bool false]) ∧ w = w' := by
  go_enter Try.func62, Try.ntmps62
  go_wp2
  go_loopw [12] (fun v wr => v = .int .i64 0 ∧ w = wr) (fun _ _ => 0)
  case atStart => exact ⟨rfl, rfl⟩
  case round =>
    obtain ⟨rfl, rfl⟩ := hrel
    go_wp2
    refine bodyPost_ret (v := .tuple #[.int .i64 0, .int .i64 (-1), .bool false]) (by simp [results, Try.results62, go_sem]) rfl ⟨rfl, rfl⟩

set_option maxRecDepth 100000 in
set_option maxHeartbeats 400000 in
theorem pick_nils (g : Nat) (w : World) (h0 : w.cell? ⟨g, 0, none⟩ = some (.pointer none)) (h1 : w.cell? ⟨g, 1, none⟩ = some (.pointer none)) : Calls Try.prog 62 #[.slice (some ⟨g, 0, none⟩) 2 2] w fun e w' => e = .returned (.tuple #[.int .i64 0, .int .i64 (-1), .bool false]) ∧ w = w' := by
  go_enter Try.func62, Try.ntmps62
  go_wp2
  go_loopw [12] (fun v wr => ∃ i : Nat, i ≤ 2 ∧ v = .int .i64 i ∧ w = wr) (fun v _ => 2 - (intOf v).toNat)
  case atStart => exact ⟨0, by omega, rfl, rfl⟩
  case round =>
    obtain ⟨i, hi, rfl, rfl⟩ := hrel
    by_cases hlt : i < 2
    · have hx : w.cell? ⟨g, i, none⟩ = some (.pointer none) := by
        rcases (show i = 0 ∨ i = 1 by omega) with rfl | rfl
        · exact h0
        · exact h1
      have hx' : w.cell? ((⟨g, 0, none⟩ : Addr).add i) = some (.pointer none) := by
        unfold Addr.add
        split
        · subst_vars; exact h0
        · simpa using hx
      go_wp2
      go_roundw
      case rel => exact ⟨i + 1, by omega, by go_num, by simp⟩
      case measure => simp [intOf]; omega
    · have e : i = 2 := by omega
      subst e
      go_wp2
      refine bodyPost_ret (v := .tuple #[.int .i64 0, .int .i64 (-1), .bool false]) (by simp [results, Try.results62, go_sem]) rfl ⟨rfl, rfl⟩

set_option maxRecDepth 100000 in
theorem pour_from (b : Value) (w : World) (hb : b = .pointer none ∨ ∃ B, b = .pointer (some ⟨B, 0, none⟩)) : Calls Try.prog 47 #[.pointer none, b] w fun e w' => e = .returned (.int .i64 0) ∧ w = w' := by
  rcases hb with rfl | ⟨B, rfl⟩
  all_goals go_enter Try.func47, Try.ntmps47
  all_goals go_wp2
  all_goals go_ret
  all_goals exact ⟨rfl, rfl⟩
set_option maxRecDepth 100000 in
theorem pour_to (B : Nat) (w : World) : Calls Try.prog 47 #[.pointer (some ⟨B, 0, none⟩), .pointer none] w fun e w' => e = .returned (.int .i64 0) ∧ w = w' := by
  go_enter Try.func47, Try.ntmps47
  go_wp2
  go_ret
  exact ⟨rfl, rfl⟩
theorem info99 : (Try.prog.info? 99).isSome = true := by kernel_rfl
set_option maxRecDepth 100000 in
theorem pour_same (B : Nat) (w : World) : Calls Try.prog 47 #[.pointer (some ⟨B, 0, none⟩), .pointer (some ⟨B, 0, none⟩)] w fun e w' => e = .returned (.int .i64 0) ∧ w = w' := by
  obtain ⟨j, hj⟩ := Option.isSome_iff_exists.mp info99
  have hq := fun w => run_eql_ptr_same (P := Try.prog) w (⟨B, 0, none⟩ : Addr) Try.underlying55 hj
  go_enter Try.func47, Try.ntmps47
  go_wp2
  go_ret
  exact ⟨rfl, rfl⟩

set_option maxRecDepth 100000 in
set_option maxHeartbeats 1000000 in
theorem walk (n : Int) (w : World) (_ : (Lit.int .i64 n).wf = true) : Calls Try.prog 15 #[.int .i64 n] w fun e w' => e = .returned (.bool true) ∧ Below w.heap.size w w' := by
  go_enter Try.func15, Try.ntmps15
  go_wp2_with fail
  refine (BoxInt.awake _).mono ?_
  rintro e w1 ⟨rfl, hb1⟩
  have HB1 := Lib.hid hb1; clear hb1
  go_wp2_with fail
  refine (BoxInt.new n _).mono ?_
  rintro e w2 ⟨B, C, D, rfl, hp, hc, hB, hC, hD⟩
  have HB2 : Hid (Below w.heap.size w w2) := hc.onto HB1.out (Nat.le_refl _) (by simp)
  clear hp hc hB hC hD HB1
  go_wp2_with fail
  have hBT : Blk (w2.alloc (Obj.cells #[.pointer none, .pointer none] 55)) w2.heap.size #[.pointer none, .pointer none] 55 := Blk.new _ _ _
  have HBW : Hid (Below w.heap.size w (w2.alloc (Obj.cells #[.pointer none, .pointer none] 55))) := ((Chg.refl (fun _ => False) w2).alloc _).onto HB2.out (Nat.le_refl _) (by simp)
  refine (pick_nils _ _ (hBT.cell (j := 0) rfl) (hBT.cell (j := 1) rfl)).mono ?_
  rintro e w3 ⟨rfl, rfl⟩
  go_wp2_with fail
  refine (pick_empty _).mono ?_
  rintro e w3 ⟨rfl, rfl⟩
  go_wp2_with fail
  refine (pour_from _ _ (Or.inr ⟨B, rfl⟩)).mono ?_
  rintro e w3 ⟨rfl, rfl⟩
  go_wp2_with fail
  refine (pour_to B _).mono ?_
  rintro e w3 ⟨rfl, rfl⟩
  go_wp2_with fail
  refine (pour_same B _).mono ?_
  rintro e w3 ⟨rfl, rfl⟩
  go_wp2
  go_ret
  exact ⟨rfl, HBW.out⟩
end Go.Proofs.Ytfkbijkmdnieiaa.BoxNil
