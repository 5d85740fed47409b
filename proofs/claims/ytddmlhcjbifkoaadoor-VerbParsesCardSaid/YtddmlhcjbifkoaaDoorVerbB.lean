/- The law on any words: both say the same. No conditions. -/
import Derived.Test.YtddmlhcjbifkoaaDoorVerbA
namespace Go.Proofs.YtddmlhcjbifkoaaDoor.Verb
open Go.Lib Go.RowKit Go.Proofs.YtddmlhcjbifkoaaDoor.Mem Go.Proofs.YtddmlhcjbifkoaaDoorW.PrintWords Go.Proofs.YtddmlhcjbifkoaaDoor.Item Go.Proofs.YtddmlhcjbifkoaaDoor.PVerbShows
attribute [local go_sem high] eqA52
set_option maxRecDepth 100000 in
set_option maxHeartbeats 1000000 in
theorem parses_long (A : Option Addr) (n c : Nat) (w : World) (hT : Tbl w) (he : Env w) (hbig : 20 < n) : Calls Tryd.prog 11 #[.slice A n c] w fun e w' => e = .returned (.bool true) ∧ Below w.heap.size w w' := by
  have HAW : Hid (∀ w1, Below w.heap.size w w1 → Calls Tryd.prog 31 #[] w1 fun e w' => e = .returned (.bool true) ∧ Below w1.heap.size w1 w') := Lib.hid (fun w1 hb => awake31 w1 (hT.step hb) (he.step hb))
  have t1 : decide ((n : Int) > 20) = true := decide_eq_true (by omega)
  clear hT he hbig
  go_enter Tryd.func11, Tryd.ntmps11
  go_wp2_with fail
  refine (HAW.out _ (Below.refl _ _)).mono ?_
  rintro e w1 ⟨rfl, hb1⟩
  have HB1 := Lib.hid hb1; clear hb1
  go_wp2_with fail
  refine (HAW.out _ HB1.out).mono ?_
  rintro e w2 ⟨rfl, hb2⟩
  have HB2 := Lib.hid hb2; clear hb2
  go_wp2_with fail
  go_ret
  exact ⟨rfl, HB1.out.trans (HB2.out.mono HB1.out.size)⟩
set_option maxRecDepth 100000 in
set_option maxHeartbeats 1000000 in
theorem parses_short (A : Option Addr) (c : Nat) (ws : List ByteArray) (w : World) (hC : Kd.C Kd.string w A ws.length ws) (hc : ws.length ≤ c) (hT : Tbl w) (he : Env w) (hl : ws.length ≤ 20) : Calls Tryd.prog 11 #[.slice A ws.length c] w fun e w' => e = .returned (.bool true) ∧ Below w.heap.size w w' := by
  have hu52 := Tryd.underlying52
  have hu50 := Tryd.underlying50
  have HAW : Hid (∀ w1, Below w.heap.size w w1 → Calls Tryd.prog 31 #[] w1 fun e w' => e = .returned (.bool true) ∧ Below w1.heap.size w1 w') := Lib.hid (fun w1 hb => awake31 w1 (hT.step hb) (he.step hb))
  obtain ⟨s, q, hsq⟩ : ∃ s q, parseR ws = (s, q) := ⟨_, _, rfl⟩
  have CP : Hid (∀ w1, (∀ y ∈ ws, y.size ≤ 100) → Below w.heap.size w w1 → Calls Tryd.prog 32 #[.slice A ws.length c] w1 fun e w' => e = .returned (.tuple #[.agg (cellsS s), .int .i64 q]) ∧ Below w1.heap.size w1 w') := Lib.hid (fun w1 hz hb => by
    have := parse_ A c ws w1 (Kd.C_below hC hb) hc (fun y hy => by have := hz y hy; omega) (by omega) (hT.step hb) (he.step hb)
    unfold ParsePost at this
    rw [hsq] at this
    exact this)
  have CR : Hid (∀ w1, (∀ y ∈ ws, y.size ≤ 100) → Below w.heap.size w w1 → Calls Tryd.prog 33 #[.slice A ws.length c] w1 fun e w' => e = .returned (.tuple #[.agg (cellsS s), .int .i64 q]) ∧ Below w1.heap.size w1 w') := Lib.hid (fun w1 hz hb => by
    have h := parse_ev ws (fun y hy => by have := hz y hy; omega) (by omega) (Nat.le_refl 1400)
    rw [hsq] at h
    exact whilomref21_Parse.calls 1400 A c ws s.say s.i s.g s.t s.n q w1 (Kd.C_below hC hb) hc h)
  have HC := Lib.hid hC
  obtain ⟨n, hn⟩ : ∃ n, n = ws.length := ⟨_, rfl⟩
  rw [← hn] at CP CR hl ⊢
  have HN := Lib.hid hn
  have t1 : decide ((n : Int) > 20) = false := decide_eq_false (by omega)
  clear hsq hC hT he hn
  go_enter Tryd.func11, Tryd.ntmps11
  go_wp2_with fail
  refine (HAW.out _ (Below.refl _ _)).mono ?_
  rintro e w1 ⟨rfl, hb1⟩
  have HB1 := Lib.hid hb1; clear hb1
  go_wp2_with fail
  go_loopw [3] (fun i wr => ∃ k : Nat, k ≤ n ∧ i = .int .i64 k ∧ (∀ y ∈ ws.take k, y.size ≤ 100) ∧ wr = w1) (fun i _ => n - (intOf i).toNat)
  case atStart => exact ⟨0, Nat.zero_le _, rfl, fun y hy => by simp at hy, rfl⟩
  case round =>
    obtain ⟨k, hk, rfl, hz, rfl⟩ := hrel
    have HZ := Lib.hid hz
    clear hz
    by_cases hlt : k < n
    · obtain ⟨y, hy⟩ : ∃ y, ws[k]? = some y := ⟨_, List.getElem?_eq_getElem (by rw [← HN.out]; exact hlt)⟩
      have HY := Lib.hid hy
      obtain ⟨ad, hA, cy⟩ := cell_str (Kd.C_below HC.out HB1.out) hy
      cases hA
      have k0 : (0 : Int) ≤ k := by omega
      have k1 : (k : Int) < n := by omega
      have k2 : ((k : Int)).toNat = k := by omega
      clear hy
      by_cases hb : 100 < y.size
      · have t2 : decide ((y.size : Int) > 100) = true := decide_eq_true (by omega)
        go_wp2_with fail
        go_ret
        exact ⟨rfl, HB1.out⟩
      · have t2 : decide ((y.size : Int) > 100) = false := decide_eq_false (by omega)
        go_wp2_with fail
        go_roundw
        case rel =>
          refine ⟨k + 1, by omega, by go_num, fun z hz => ?_, by first | rfl | trivial⟩
          rw [List.take_add_one, HY.out] at hz
          rcases List.mem_append.1 hz with hz | hz
          · exact HZ.out z hz
          · simp at hz; subst hz; omega
        case measure => simp [intOf]; omega
    · have HZA : Hid (∀ y ∈ ws, y.size ≤ 100) := Lib.hid (by have := HZ.out; rw [List.take_of_length_le (by rw [← HN.out]; omega)] at this; exact this)
      clear HZ
      go_wp2_with fail
      refine (CP.out _ HZA.out HB1.out).mono ?_
      rintro e w2 ⟨rfl, hb⟩
      have HB2 := Lib.hid (HB1.out.trans (hb.mono HB1.out.size))
      have HX : Hid (Blk (w2.alloc (Obj.cells #[Value.int .i64 s.say, .int .i64 s.i, .int .i64 s.g, .int .i64 s.t, .int .i64 s.n] 52)) w2.heap.size #[.int .i64 s.say, .int .i64 s.i, .int .i64 s.g, .int .i64 s.t, .int .i64 s.n] 52) := Lib.hid (Blk.new _ _ _)
      have HB3 : Hid (Below w.heap.size w (w2.alloc (Obj.cells #[Value.int .i64 s.say, .int .i64 s.i, .int .i64 s.g, .int .i64 s.t, .int .i64 s.n] 52))) := Lib.hid (HB2.out.alloc HB2.out.size _)
      clear hb HB2
      go_wp2_with fail
      refine (CR.out _ HZA.out HB3.out).mono ?_
      rintro e w4 ⟨rfl, hb⟩
      have HX4 := HX.out.below hb
      have HB4 := Lib.hid (HB3.out.trans (hb.mono HB3.out.size))
      have hX5 := HX4.alloc (Obj.cells #[Value.int .i64 s.say, .int .i64 s.i, .int .i64 s.g, .int .i64 s.t, .int .i64 s.n] 52)
      have hlt := HX4.lt
      have d0 := hX5.cell (j := 0) rfl
      have d1 := hX5.cell (j := 1) rfl
      have d2 := hX5.cell (j := 2) rfl
      have d3 := hX5.cell (j := 3) rfl
      have d4 := hX5.cell (j := 4) rfl
      have HB5 : Hid (Below w.heap.size w (w4.alloc (Obj.cells #[Value.int .i64 s.say, .int .i64 s.i, .int .i64 s.g, .int .i64 s.t, .int .i64 s.n] 52))) := Lib.hid (HB4.out.alloc HB4.out.size _)
      clear hb HX HX4 HB3 hX5
      go_wp2_with fail
      go_ret
      exact ⟨by simp, HB5.out⟩
end Go.Proofs.YtddmlhcjbifkoaaDoor.Verb
