/- The document's example of tables. -/
import Derived.Test.YtccfjjaljckinaaTagQ
namespace Go.Proofs.Ytccfjjaljckinaa.Tag
open Go.RowKit Go.Lib Go.Shelf Go.Proofs.Ytccfjjaljckinaa.Mem Go.Proofs.Ytccfjjaljckinaa.IMap Go.Proofs.YtccfjjaljckinaaW.PrintWords

def tb0 : Tab := ⟨9, 0, []⟩
def tb1 : Tab := ⟨9, 1, [⟨1, 1, ⟨5, true, 7, 0⟩⟩]⟩
def tb2 : Tab := ⟨9, 1, [⟨1, 0, ⟨0, false, 0, 0⟩⟩]⟩
def tb3 : Tab := ⟨9, 2, [⟨2, 2, ⟨5, false, 0, 1⟩⟩]⟩
def tb4 : Tab := ⟨9, 2, [⟨2, 0, ⟨0, false, 0, 0⟩⟩]⟩
def tb5 : Tab := ⟨9, 2, [⟨2, 1, ⟨5, true, 7, 0⟩⟩]⟩
def tb6 : Tab := ⟨9, 2, [⟨2, 0, ⟨0, false, 0, 0⟩⟩]⟩
def tb7 : Tab := ⟨9, 3, [⟨3, 3, ⟨6, true, 1, 2⟩⟩]⟩
theorem tn : newT 9 = tb0 := rfl
theorem ti1 : issueR tb0 5 true 7 = (⟨⟨0, 1⟩, ⟨5, true, 7, 0⟩⟩, 0, tb1) := by rfl
theorem td2 : dropR tb1 ⟨0, 1⟩ = (⟨5, true, 7, 0⟩, true, tb2) := by rfl
theorem ti3 : issueR tb2 5 false 7 = (⟨⟨0, 2⟩, ⟨5, false, 0, 1⟩⟩, 0, tb3) := by rfl
theorem td4 : dropR tb3 ⟨0, 2⟩ = (⟨5, false, 0, 1⟩, true, tb4) := by rfl
theorem tr5 : reviveE tb4 ⟨⟨0, 1⟩, ⟨5, true, 7, 0⟩⟩ = 0 ∧ reviveT tb4 ⟨⟨0, 1⟩, ⟨5, true, 7, 0⟩⟩ = tb5 := by constructor <;> rfl
theorem td6 : dropR tb5 ⟨0, 1⟩ = (⟨5, true, 7, 0⟩, true, tb6) := by rfl
theorem ti7 : issueR tb6 6 true 1 = (⟨⟨0, 3⟩, ⟨6, true, 1, 2⟩⟩, 0, tb7) := by rfl
theorem in64_small {n : Int} (h : -1000 ≤ n) (h' : n ≤ 1000) : In64 n := by unfold In64; omega

set_option maxRecDepth 100000 in
set_option maxHeartbeats 4000000 in
theorem awake (w : World) : Calls Try.prog 8 #[] w fun e w' => e = .returned (.bool true) ∧ Below w.heap.size w w' := by
  have hu34 := Try.underlying34
  have hu32 := Try.underlying32
  have hu30 := Try.underlying30
  have hu28 := Try.underlying28
  go_enter Try.func8, Try.ntmps8
  go_wp2_with fail
  refine (newAt 9 w).mono ?_
  rintro e w1 ⟨rfl, ht, hb⟩
  rw [tn] at ht
  have HT1 := Lib.hid ht
  have HB1 : Hid (Below w.heap.size w w1) := Lib.hid hb
  have z1 := hb.size
  clear ht hb
  go_wp2_with fail
  refine (issueAt HT1.out (x := 5) (key := 7) (ins := true) (in64_small (by decide) (by decide)) (in64_small (by decide) (by decide)) (by decide) (by decide)).mono ?_
  rintro e w2 ⟨he, ht, hc⟩
  rw [ti1] at he ht
  change e = .returned (.tuple #[.agg #[.int .i64 0, .int .i64 1, .int .i64 5, .bool true, .int .i64 7, .int .i64 0] , .int .i64 0]) at he
  subst he
  have HT2 := Lib.hid ht
  have HB2 : Hid (Below w.heap.size w w2) := Lib.hid (HB1.out.trans (hc.below (fun k hk _ h => by omega) z1))
  have z2 := hc.size
  clear ht hc HT1
  go_wp2_with fail
  refine gw (fun wa hwa => ?_)
  have HBa : Hid (Below w2.heap.size w2 wa) := Lib.hid (by rw [← hwa]; exact (Below.refl _ _).alloc (Nat.le_refl _) _)
  have HXa : Hid (Blk wa w2.heap.size #[.int .i64 0, .int .i64 1, .int .i64 5, .bool true, .int .i64 7, .int .i64 0] 34) := Lib.hid (by rw [← hwa]; exact Blk.new _ _ _)
  have za : w2.heap.size < wa.heap.size := HXa.out.lt
  clear hwa
  refine (dropAt (HT2.out.below HBa.out) ⟨0, 1⟩).mono ?_
  rintro e w3 ⟨he, ht, hc⟩
  rw [td2] at he ht
  subst he
  have HT3 := Lib.hid ht
  have HXa3 : Hid (Blk w3 w2.heap.size #[.int .i64 0, .int .i64 1, .int .i64 5, .bool true, .int .i64 7, .int .i64 0] 34) := Lib.hid (HXa.out.keep hc (by unfold More; omega))
  have HB3 : Hid (Below w.heap.size w w3) := Lib.hid (HB2.out.trans ((HBa.out.mono (by omega)).trans (hc.below (fun k hk _ h => by unfold More at h; omega) (by omega))))
  have z3 := hc.size
  clear ht hc HT2 HXa HBa
  go_wp2_with fail
  refine (issueAt HT3.out (x := 5) (key := 7) (ins := false) (in64_small (by decide) (by decide)) (in64_small (by decide) (by decide)) (by decide) (by decide)).mono ?_
  rintro e w4 ⟨he, ht, hc⟩
  rw [ti3] at he ht
  change e = .returned (.tuple #[.agg #[.int .i64 0, .int .i64 2, .int .i64 5, .bool false, .int .i64 0, .int .i64 1] , .int .i64 0]) at he
  subst he
  have HT4 := Lib.hid ht
  have HXa4 : Hid (Blk w4 w2.heap.size #[.int .i64 0, .int .i64 1, .int .i64 5, .bool true, .int .i64 7, .int .i64 0] 34) := Lib.hid (HXa3.out.keep hc (by unfold More; omega))
  have HB4 : Hid (Below w.heap.size w w4) := Lib.hid (HB3.out.trans (hc.below (fun k hk _ h => by unfold More at h; omega) (by omega)))
  have z4 := hc.size
  clear ht hc HT3 HXa3
  go_wp2_with fail
  refine gw (fun wb hwb => ?_)
  have HBb : Hid (Below w4.heap.size w4 wb) := Lib.hid (by rw [← hwb]; exact (Below.refl _ _).alloc (Nat.le_refl _) _)
  have HXb : Hid (Blk wb w4.heap.size #[.int .i64 0, .int .i64 2, .int .i64 5, .bool false, .int .i64 0, .int .i64 1] 34) := Lib.hid (by rw [← hwb]; exact Blk.new _ _ _)
  have zb : w4.heap.size < wb.heap.size := HXb.out.lt
  clear hwb
  refine (dropAt (HT4.out.below HBb.out) ⟨0, 2⟩).mono ?_
  rintro e w5 ⟨he, ht, hc⟩
  rw [td4] at he ht
  subst he
  have HT5 := Lib.hid ht
  have HXa5 : Hid (Blk w5 w2.heap.size #[.int .i64 0, .int .i64 1, .int .i64 5, .bool true, .int .i64 7, .int .i64 0] 34) := Lib.hid ((HXa4.out.below HBb.out).keep hc (by unfold More; omega))
  have HXb5 : Hid (Blk w5 w4.heap.size #[.int .i64 0, .int .i64 2, .int .i64 5, .bool false, .int .i64 0, .int .i64 1] 34) := Lib.hid (HXb.out.keep hc (by unfold More; omega))
  have HB5 : Hid (Below w.heap.size w w5) := Lib.hid (HB4.out.trans ((HBb.out.mono (by omega)).trans (hc.below (fun k hk _ h => by unfold More at h; omega) (by omega))))
  have z5 := hc.size
  clear ht hc HT4 HXa4 HXb HBb
  have a0 := HXa5.out.cell (j := 0) rfl
  have a1 := HXa5.out.cell (j := 1) rfl
  have a2 := HXa5.out.cell (j := 2) rfl
  have a3 := HXa5.out.cell (j := 3) rfl
  have a4 := HXa5.out.cell (j := 4) rfl
  have a5 := HXa5.out.cell (j := 5) rfl
  go_wp2_with fail
  refine (reviveAt HT5.out ⟨⟨0, 1⟩, ⟨5, true, 7, 0⟩⟩ ⟨in64_small (by decide) (by decide), in64_small (by decide) (by decide), in64_small (by decide) (by decide)⟩).mono ?_
  rintro e w6 ⟨he, ht, hc⟩
  rw [tr5.1] at he
  rw [tr5.2] at ht
  subst he
  have HT6 := Lib.hid ht
  have HXa6 : Hid (Blk w6 w2.heap.size #[.int .i64 0, .int .i64 1, .int .i64 5, .bool true, .int .i64 7, .int .i64 0] 34) := Lib.hid (HXa5.out.keep hc (by unfold More; omega))
  have HXb6 : Hid (Blk w6 w4.heap.size #[.int .i64 0, .int .i64 2, .int .i64 5, .bool false, .int .i64 0, .int .i64 1] 34) := Lib.hid (HXb5.out.keep hc (by unfold More; omega))
  have HB6 : Hid (Below w.heap.size w w6) := Lib.hid (HB5.out.trans (hc.below (fun k hk _ h => by unfold More at h; omega) (by omega)))
  have z6 := hc.size
  clear ht hc HT5 HXa5 HXb5 a0 a1 a2 a3 a4 a5
  have a0 := HXa6.out.cell (j := 0) rfl
  have a1 := HXa6.out.cell (j := 1) rfl
  have a2 := HXa6.out.cell (j := 2) rfl
  have a3 := HXa6.out.cell (j := 3) rfl
  have a4 := HXa6.out.cell (j := 4) rfl
  have a5 := HXa6.out.cell (j := 5) rfl
  go_wp2_with fail
  refine (dropAt HT6.out ⟨0, 1⟩).mono ?_
  rintro e w7 ⟨he, ht, hc⟩
  rw [td6] at he ht
  subst he
  have HT7 := Lib.hid ht
  have HXa7 : Hid (Blk w7 w2.heap.size #[.int .i64 0, .int .i64 1, .int .i64 5, .bool true, .int .i64 7, .int .i64 0] 34) := Lib.hid (HXa6.out.keep hc (by unfold More; omega))
  have HXb7 : Hid (Blk w7 w4.heap.size #[.int .i64 0, .int .i64 2, .int .i64 5, .bool false, .int .i64 0, .int .i64 1] 34) := Lib.hid (HXb6.out.keep hc (by unfold More; omega))
  have HB7 : Hid (Below w.heap.size w w7) := Lib.hid (HB6.out.trans (hc.below (fun k hk _ h => by unfold More at h; omega) (by omega)))
  have z7 := hc.size
  clear ht hc HT6 HXa6 HXb6 a0 a1 a2 a3 a4 a5
  go_wp2_with fail
  refine (issueAt HT7.out (x := 6) (key := 1) (ins := true) (in64_small (by decide) (by decide)) (in64_small (by decide) (by decide)) (by decide) (by decide)).mono ?_
  rintro e w8 ⟨he, ht, hc⟩
  rw [ti7] at he ht
  change e = .returned (.tuple #[.agg #[.int .i64 0, .int .i64 3, .int .i64 6, .bool true, .int .i64 1, .int .i64 2] , .int .i64 0]) at he
  subst he
  have HXa8 : Hid (Blk w8 w2.heap.size #[.int .i64 0, .int .i64 1, .int .i64 5, .bool true, .int .i64 7, .int .i64 0] 34) := Lib.hid (HXa7.out.keep hc (by unfold More; omega))
  have HXb8 : Hid (Blk w8 w4.heap.size #[.int .i64 0, .int .i64 2, .int .i64 5, .bool false, .int .i64 0, .int .i64 1] 34) := Lib.hid (HXb7.out.keep hc (by unfold More; omega))
  have HB8 : Hid (Below w.heap.size w w8) := Lib.hid (HB7.out.trans (hc.below (fun k hk _ h => by unfold More at h; omega) (by omega)))
  have z8 := hc.size
  clear ht hc HT7 HXa7 HXb7
  have a0 := HXa8.out.cell (j := 0) rfl
  have a1 := HXa8.out.cell (j := 1) rfl
  have a2 := HXa8.out.cell (j := 2) rfl
  have a3 := HXa8.out.cell (j := 3) rfl
  have a4 := HXa8.out.cell (j := 4) rfl
  have a5 := HXa8.out.cell (j := 5) rfl
  have b0 := HXb8.out.cell (j := 0) rfl
  have b1 := HXb8.out.cell (j := 1) rfl
  have b2 := HXb8.out.cell (j := 2) rfl
  have b3 := HXb8.out.cell (j := 3) rfl
  have b4 := HXb8.out.cell (j := 4) rfl
  have b5 := HXb8.out.cell (j := 5) rfl
  have ha8 : w2.heap.size < w8.heap.size := HXa8.out.lt
  have hb8 : w4.heap.size < w8.heap.size := HXb8.out.lt
  go_wp2
  go_ret
  exact ⟨by rfl, HB8.out.alloc (by omega) _⟩
end Go.Proofs.Ytccfjjaljckinaa.Tag
