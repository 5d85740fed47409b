/- The laws of items: texts and readings. No conditions. -/
import Derived.Test.YtddmlhcjbifkoaaDoorItem4
namespace Go.Proofs.YtddmlhcjbifkoaaDoor.Item
open Go.Lib Go.RowKit Go.Proofs.YtddmlhcjbifkoaaDoor.Mem Go.Proofs.YtddmlhcjbifkoaaDoorW.PrintWords Go.Proofs.YtddmlhcjbifkoaaDoor.PItemReads Go.Proofs.YtddmlhcjbifkoaaDoor.ItemCmp

set_option maxRecDepth 100000 in
set_option maxHeartbeats 1000000 in
theorem law_texts (k i : Int) (w : World) (hk : In64 k) (hi : In64 i) (he : Env w) :
    Calls Tryd.prog 8 #[.agg #[.int .i64 k, .int .i64 i]] w fun e w' => e = .returned (.bool true) ∧ Below w.heap.size w w' := by
  have hu41 := Tryd.underlying41
  have HAW : Hid (∀ w1, Below w.heap.size w w1 → Calls Tryd.prog 24 #[] w1 fun e w' => e = .returned (.bool true) ∧ Below w1.heap.size w1 w') := Lib.hid (fun w1 hb => awake w1 (he.step hb))
  obtain ⟨t, ht⟩ : ∃ t, t = mk (textOf k i) := ⟨_, rfl⟩
  have hl : t.size ≤ 1000000 := by
    rw [ht, mk_size]; unfold textOf
    have h1 := itoa_len hk; have h2 := itoa_len hi
    simp; omega
  have CT : Hid (∀ w1, Below w.heap.size w w1 → Calls Tryd.prog 27 #[.agg #[.int .i64 k, .int .i64 i]] w1 fun e w' => e = .returned (.string t) ∧ Below w1.heap.size w1 w') := Lib.hid (fun w1 hb => by rw [ht]; exact text k i w1 hk hi (he.step hb))
  have CF : Hid (∀ w1, Calls Tryd.prog 29 #[.agg #[.int .i64 k, .int .i64 i]] w1 fun e w' => e = .returned (.string t) ∧ Below w1.heap.size w1 w') := Lib.hid (fun w1 => by rw [ht]; exact refText k i w1 hk hi)
  have CR : Hid (∀ w1, Below w.heap.size w w1 → Calls Tryd.prog 28 #[.string t] w1 fun e w' => e = .returned (.tuple #[.agg #[.int .i64 k, .int .i64 i], .bool true]) ∧ Below w1.heap.size w1 w') := Lib.hid (fun w1 hb => by
    have := read t w1 hl (he.step hb)
    rw [ht, mk_toList, readOf_text hk hi, ← ht] at this
    exact this)
  clear he hk hi ht hl
  obtain ⟨wa, hwa⟩ : ∃ wa, wa = w.alloc (Obj.cells #[Value.int .i64 k, .int .i64 i] 41) := ⟨_, rfl⟩
  have HA : Hid (Below w.heap.size w wa) := by subst hwa; exact (Below.refl _ _).alloc (Nat.le_refl _) _
  have HBa : Hid (Blk wa w.heap.size #[.int .i64 k, .int .i64 i] 41) := by subst hwa; exact Blk.new _ _ _
  have HE := Lib.hid hwa
  clear hwa
  go_enter Tryd.func8, Tryd.ntmps8
  go_wp2_with fail
  rw [← HE.out]
  refine (HAW.out _ HA.out).mono ?_
  rintro e w1 ⟨rfl, hb⟩
  have HX1 := Lib.hid (HBa.out.below hb)
  have HB1 : Hid (Below w.heap.size w w1) := Lib.hid (HA.out.trans (hb.mono HA.out.size))
  clear hb HE HBa HA
  have x0 : w1.cell? ⟨w.heap.size, 0, none⟩ = some (.int .i64 k) := HX1.out.cell (j := 0) rfl
  have x1 : w1.cell? ⟨w.heap.size, 1, none⟩ = some (.int .i64 i) := HX1.out.cell (j := 1) rfl
  go_wp2_with fail
  refine (CT.out _ HB1.out).mono ?_
  rintro e w2 ⟨rfl, hb⟩
  have HX2 := Lib.hid (HX1.out.below hb)
  have HB2 : Hid (Below w.heap.size w w2) := Lib.hid (HB1.out.trans (hb.mono HB1.out.size))
  clear hb HX1 HB1 x0 x1
  go_wp2_with fail
  refine (CR.out _ HB2.out).mono ?_
  rintro e w3 ⟨rfl, hb⟩
  have hx3 := HX2.out.below hb
  have HB3 : Hid (Below w.heap.size w w3) := Lib.hid (HB2.out.trans (hb.mono HB2.out.size))
  have hka := hx3.alloc (Obj.cells #[Value.int .i64 k, Value.int .i64 i] 41)
  have hya : Blk (w3.alloc (Obj.cells #[Value.int .i64 k, Value.int .i64 i] 41)) w3.heap.size #[.int .i64 k, .int .i64 i] 41 := Blk.new _ _ _
  have x0 : (w3.alloc (Obj.cells #[Value.int .i64 k, Value.int .i64 i] 41)).cell? ⟨w.heap.size, 0, none⟩ = some (.int .i64 k) := hka.cell (j := 0) rfl
  have x1 : (w3.alloc (Obj.cells #[Value.int .i64 k, Value.int .i64 i] 41)).cell? ⟨w.heap.size, 1, none⟩ = some (.int .i64 i) := hka.cell (j := 1) rfl
  have HK := Lib.hid hka
  have HY := Lib.hid hya
  have HB4 : Hid (Below w.heap.size w (w3.alloc (Obj.cells #[Value.int .i64 k, Value.int .i64 i] 41))) := Lib.hid (HB3.out.alloc (HB3.out.size) _)
  clear hb hx3 hka hya HB2 HX2
  go_wp2_with fail
  refine (CF.out _).mono ?_
  rintro e w5 ⟨rfl, hb⟩
  have hx := HK.out.below hb
  have hy := HY.out.below hb
  have xx0 : w5.cell? ⟨w.heap.size, 0, none⟩ = some (.int .i64 k) := hx.cell (j := 0) rfl
  have xx1 : w5.cell? ⟨w.heap.size, 1, none⟩ = some (.int .i64 i) := hx.cell (j := 1) rfl
  have yy0 : w5.cell? ⟨w3.heap.size, 0, none⟩ = some (.int .i64 k) := hy.cell (j := 0) rfl
  have yy1 : w5.cell? ⟨w3.heap.size, 1, none⟩ = some (.int .i64 i) := hy.cell (j := 1) rfl
  have HB5 : Hid (Below w.heap.size w w5) := Lib.hid (HB4.out.trans (hb.mono HB4.out.size))
  clear hb hx hy HK HY HB4 HB3 x0 x1
  go_wp2
  go_ret
  exact ⟨by simp, HB5.out⟩

set_option maxRecDepth 100000 in
set_option maxHeartbeats 1000000 in
theorem law_reads (s : ByteArray) (w : World) (he : Env w) :
    Calls Tryd.prog 9 #[.string s] w fun e w' => e = .returned (.bool true) ∧ Below w.heap.size w w' := by
  have hu41 := Tryd.underlying41
  have HAW : Hid (∀ w1, Below w.heap.size w w1 → Calls Tryd.prog 24 #[] w1 fun e w' => e = .returned (.bool true) ∧ Below w1.heap.size w1 w') := Lib.hid (fun w1 hb => awake w1 (he.step hb))
  by_cases hbig : 200 < s.size
  · have hz : (200 : Int) < (s.size : Int) := by omega
    clear hbig
    go_enter Tryd.func9, Tryd.ntmps9
    go_wp2_with fail
    refine (HAW.out _ (Below.refl _ _)).mono ?_
    rintro e w1 ⟨rfl, hb1⟩
    have HB1 := Lib.hid hb1; clear hb1
    go_wp2_with fail
    refine (HAW.out _ HB1.out).mono ?_
    rintro e w2 ⟨rfl, hb2⟩
    have HB2 := Lib.hid hb2; clear hb2
    go_wp2_with fail
    go_ret
    exact ⟨rfl, HB1.out.trans (HB2.out.mono HB1.out.size)⟩
  · have hz : ¬ (200 : Int) < (s.size : Int) := by omega
    have hl : s.size ≤ 1000000 := by omega
    obtain ⟨p, q, o, hR⟩ : ∃ p q o, readR (readOf s.data.toList) = (p, q, o) := ⟨_, _, _, rfl⟩
    have CR : Hid (∀ w1, Below w.heap.size w w1 → Calls Tryd.prog 28 #[.string s] w1 fun e w' => e = .returned (.tuple #[.agg #[.int .i64 p, .int .i64 q], .bool o]) ∧ Below w1.heap.size w1 w') := Lib.hid (fun w1 hb => by
      have := read s w1 hl (he.step hb)
      rw [hR] at this
      exact this)
    have CF : Hid (∀ w1, Calls Tryd.prog 30 #[.string s] w1 fun e w' => e = .returned (.tuple #[.agg #[.int .i64 p, .int .i64 q], .bool o]) ∧ Below w1.heap.size w1 w') := Lib.hid (fun w1 => whilomref02_Read.calls (s.size + 101) s p q o w1 (by rw [read_ev s hl (Nat.le_refl _), hR]))
    clear he hR hl hbig
    go_enter Tryd.func9, Tryd.ntmps9
    go_wp2_with fail
    refine (HAW.out _ (Below.refl _ _)).mono ?_
    rintro e w1 ⟨rfl, hb1⟩
    have HB1 := Lib.hid hb1; clear hb1
    go_wp2_with fail
    refine (CR.out _ HB1.out).mono ?_
    rintro e w2 ⟨rfl, hb⟩
    have HB2 : Hid (Below w.heap.size w w2) := Lib.hid (HB1.out.trans (hb.mono HB1.out.size))
    have HK2 : Hid (Blk (w2.alloc (Obj.cells #[Value.int .i64 p, Value.int .i64 q] 41)) w2.heap.size #[.int .i64 p, .int .i64 q] 41) := Lib.hid (Blk.new _ _ _)
    have HB3 : Hid (Below w.heap.size w (w2.alloc (Obj.cells #[Value.int .i64 p, Value.int .i64 q] 41))) := Lib.hid (HB2.out.alloc (HB2.out.size) _)
    clear hb HB1
    go_wp2_with fail
    refine (CF.out _).mono ?_
    rintro e w4 ⟨rfl, hb⟩
    have hx := HK2.out.below hb
    have hka := hx.alloc (Obj.cells #[Value.int .i64 p, Value.int .i64 q] 41)
    have x0 : (w4.alloc (Obj.cells #[Value.int .i64 p, Value.int .i64 q] 41)).cell? ⟨w2.heap.size, 0, none⟩ = some (.int .i64 p) := hka.cell (j := 0) rfl
    have x1 : (w4.alloc (Obj.cells #[Value.int .i64 p, Value.int .i64 q] 41)).cell? ⟨w2.heap.size, 1, none⟩ = some (.int .i64 q) := hka.cell (j := 1) rfl
    have HB4 : Hid (Below w.heap.size w w4) := Lib.hid (HB3.out.trans (hb.mono HB3.out.size))
    clear hb hx hka HK2 HB3 HB2
    go_wp2
    go_ret
    exact ⟨by simp, HB4.out.alloc (HB4.out.size) _⟩
end Go.Proofs.YtddmlhcjbifkoaaDoor.Item
