/- The law of sorted items. No conditions. -/
import Derived.Test.YtddmlhcjbifkoaaDoorSort6
import Derived.Test.YtddmlhcjbifkoaaDoorItemL
namespace Go.Proofs.YtddmlhcjbifkoaaDoor.Sort
set_option linter.unusedVariables false
open Go Go.RowKit Go.Lib Go.Proofs.YtddmlhcjbifkoaaDoor.Mem Go.Proofs.YtddmlhcjbifkoaaDoor.Item Go.Proofs.YtddmlhcjbifkoaaDoor.PItemSorts Go.Proofs.YtddmlhcjbifkoaaDoorW.PrintWords Go.Proofs.YtddmlhcjbifkoaaDoorW.PrintLast Go.Proofs.YtddmlhcjbifkoaaDoorW.PrintMore
attribute [local go_sem high] eqA41
set_option maxRecDepth 100000 in
set_option maxHeartbeats 8000000 in
theorem law_big (A : Option Addr) (n c : Nat) (w : World) (hb : 100 < n) (he : Env w) :
    Calls Tryd.prog 15 #[.slice A n c] w fun e w' => e = .returned (.bool true) ∧ Below w.heap.size w w' := by
  have hu41 := Tryd.underlying41
  have HAW : Hid (∀ w1, Below w.heap.size w w1 → Calls Tryd.prog 24 #[] w1 fun e w' => e = .returned (.bool true) ∧ Below w1.heap.size w1 w') := Lib.hid (fun w1 hb => awake w1 (he.step hb))
  have t1 : decide ((n : Int) > 100) = true := decide_eq_true (by omega)
  have t2 : decide (100 < (n : Int)) = true := decide_eq_true (by omega)
  clear he hb
  go_enter Tryd.func15, Tryd.ntmps15
  go_wp2_with (go_at_call 24; first | (refine (HAW.out _ (Below.refl _ _)).mono ?_; rintro e w1 ⟨rfl, hb⟩; have HB1 := Lib.hid hb; clear hb) | (refine (HAW.out _ HB1.out).mono ?_; rintro e w2 ⟨rfl, hb⟩; have HB2 := Lib.hid (HB1.out.trans (hb.mono HB1.out.size)); clear hb))
  go_ret
  exact ⟨rfl, HB2.out⟩
set_option maxRecDepth 100000 in
set_option maxHeartbeats 8000000 in
theorem law_nil (A : Option Addr) (n c : Nat)  (w : World) (hC : Kd.C k41 w A n (([] : List (Int × Int)).map toS)) (hn : n = ([] : List (Int × Int)).length) (hc : n ≤ c) (hl : ([] : List (Int × Int)).length ≤ 100) (he : Env w) :
    Calls Tryd.prog 15 #[.slice A n c] w fun e w' => e = .returned (.bool true) ∧ Below w.heap.size w w' := by
  have hu41 := Tryd.underlying41
  have HAW : Hid (∀ w1, Below w.heap.size w w1 → Calls Tryd.prog 24 #[] w1 fun e w' => e = .returned (.bool true) ∧ Below w1.heap.size w1 w') := Lib.hid (fun w1 hb => awake w1 (he.step hb))
  have HC := Lib.hid hC
  have HN := Lib.hid hn
  have HCc := Lib.hid hc
  have HL := Lib.hid hl
  have t1 : decide ((n : Int) > 100) = false := decide_eq_false (by omega)
  have t2 : decide (100 < (n : Int)) = false := decide_eq_false (by omega)
  have HLE : Hid (∀ w', Below w.heap.size w w' → Calls Tryd.prog 41 #[.slice A n c] w' fun e w'' => e = .returned (.tuple #[.agg #[.int .i64 (0, 0).1, .int .i64 (0, 0).2], .bool false]) ∧ Below w'.heap.size w' w'') := Lib.hid (fun w' hb => least_calls A c n [] w' (Kd.C_below hC hb) hn hc hl)
  have HMO : Hid (∀ w', Below w.heap.size w w' → Calls Tryd.prog 42 #[.slice A n c] w' fun e w'' => e = .returned (.tuple #[.agg #[.int .i64 (0, 0).1, .int .i64 (0, 0).2], .bool false]) ∧ Below w'.heap.size w' w'') := Lib.hid (fun w' hb => most_calls A c n [] w' (Kd.C_below hC hb) hn hc hl)
  have p1 : decide ((n : Int) > 0) = false := decide_eq_false (by simp at hn; omega)
  have p2 : decide (0 < (n : Int)) = false := decide_eq_false (by simp at hn; omega)
  have p3 : (0 < n) = False := eq_false (by simp at hn; omega)

  clear he hC hn hc hl
  go_enter Tryd.func15, Tryd.ntmps15
  go_wp2_with (first
    | (go_at_call 24; refine (HAW.out _ (Below.refl _ _)).mono ?_; rintro e w1 ⟨rfl, hb⟩; have HB1 := Lib.hid hb; clear hb HAW)
    | (refine gate_dst (N := 17) rfl ?_; refine Kd.R_lit k41 w.heap.size 41 ?_ (N := 17) ?_ (xs := ([] : List S41)) (inner := []) (ok := fun k => w.heap.size ≤ k) (okp := fun _ => False) ?_ ?_ (fun _ hk => hk.elim) HB1.out.size HB1.out HB1.out.size (by simp) ?_; rfl; rfl; (next => first | (go_simp; done) | (go_simp; rfl)); exact Reps.none _ _; intro ve we hE hbE _ _; have HE := Lib.hid hE; have HBE := Lib.hid hbE; have HCe := Lib.hid (Kd.C_below HC.out hbE); clear hE hbE HB1)
    | (refine gate_dst (N := 19) rfl ?_; refine Kd.R_append_rows k41 (w0 := w) w.heap.size rfl (.tmp 17) (.tmp 18) 63 41 (.agg #[.int .i64 0, .int .i64 0]) 16 rfl Tryd.underlying63 info41 rfl (by decide) (by omega) ve [] (([] : List (Int × Int)).map toS) A n c (fun k => w.heap.size ≤ k) (fun _ => False) rfl rfl HE.out HCe.out (fun _ _ h => h) (fun _ h => h.elim) (fun k hk => Nat.le_trans HBE.out.size hk) HBE.out HBE.out.size (by have := HL.out; have := HN.out; simp; omega) ?_; intro v6 w6 hR6 hB6 _ _; rw [List.nil_append] at hR6; obtain ⟨A6, c6, rfl, hc6, hC6⟩ := Kd.R_reads hR6; rw [List.length_map, ← HN.out] at hc6 hC6 ⊢; have HC6 := Lib.hid hC6; have Hc6 := Lib.hid hc6; have HB6 := Lib.hid hB6; clear hR6 hB6 hC6 hc6 HE HBE HCe)
    | (go_at_call 40; refine (rsorted_calls A6 c6 n ([] : List (Int × Int)) _ HC6.out HN.out Hc6.out HL.out).mono ?_; rintro e w7 ⟨B7, c7, rfl, hc7, hC7, hb⟩; have HC7 := Lib.hid hC7; have Hc7 := Lib.hid hc7; have HB7 := Lib.hid (HB6.out.trans (hb.mono HB6.out.size)); have HA7 := Lib.hid (Kd.C_below HC6.out hb); clear hc7 hC7 hb HB6 HC6)
    | (go_at_call 41; refine (HLE.out _ HB7.out).mono ?_; rintro e w8 ⟨rfl, hb⟩; have HC8 := Lib.hid (Kd.C_below (Kd.C_below HC7.out hb) (Below.refl _ _ |>.alloc (Nat.le_refl _) (.cells #[.int .i64 ((0, 0) : Int × Int).1, .int .i64 ((0, 0) : Int × Int).2] 41))); have HB8 := Lib.hid ((HB7.out.trans (hb.mono HB7.out.size)).alloc (Nat.le_trans HB7.out.size hb.size) (.cells #[.int .i64 ((0, 0) : Int × Int).1, .int .i64 ((0, 0) : Int × Int).2] 41)); have HX8 : Hid (Blk (w8.alloc (.cells #[.int .i64 ((0, 0) : Int × Int).1, .int .i64 ((0, 0) : Int × Int).2] 41)) w8.heap.size #[.int .i64 ((0, 0) : Int × Int).1, .int .i64 ((0, 0) : Int × Int).2] 41) := Lib.hid (Blk.new _ _ _); have HA8 := Lib.hid (Kd.C_below (Kd.C_below HA7.out hb) (Below.refl _ _ |>.alloc (Nat.le_refl _) (.cells #[.int .i64 ((0, 0) : Int × Int).1, .int .i64 ((0, 0) : Int × Int).2] 41))); clear hb HB7 HC7 HA7 HLE)
    | (go_at_call 42; refine (HMO.out _ HB8.out).mono ?_; rintro e w9 ⟨rfl, hb⟩; have HC9 := Lib.hid (Kd.C_below (Kd.C_below HC8.out hb) (Below.refl _ _ |>.alloc (Nat.le_refl _) (.cells #[.int .i64 ((0, 0) : Int × Int).1, .int .i64 ((0, 0) : Int × Int).2] 41))); have HB9 := Lib.hid ((HB8.out.trans (hb.mono HB8.out.size)).alloc (Nat.le_trans HB8.out.size hb.size) (.cells #[.int .i64 ((0, 0) : Int × Int).1, .int .i64 ((0, 0) : Int × Int).2] 41)); have HX9 := Lib.hid ((HX8.out.below hb).alloc (.cells #[.int .i64 ((0, 0) : Int × Int).1, .int .i64 ((0, 0) : Int × Int).2] 41)); have HY9 : Hid (Blk (w9.alloc (.cells #[.int .i64 ((0, 0) : Int × Int).1, .int .i64 ((0, 0) : Int × Int).2] 41)) w9.heap.size #[.int .i64 ((0, 0) : Int × Int).1, .int .i64 ((0, 0) : Int × Int).2] 41) := Lib.hid (Blk.new _ _ _); have HA9 := Lib.hid (Kd.C_below (Kd.C_below HA8.out hb) (Below.refl _ _ |>.alloc (Nat.le_refl _) (.cells #[.int .i64 ((0, 0) : Int × Int).1, .int .i64 ((0, 0) : Int × Int).2] 41))); clear hb HB8 HC8 HA8 HX8 HMO)
    | (go_at_call 44; refine (sorted_calls A c n ([] : List (Int × Int)) _ (Kd.C_below HC.out HB9.out) HN.out HL.out).mono ?_; rintro e w10 ⟨Bs, cs, rfl, hcs, hCs, hb⟩; have HS10 := Lib.hid hCs; have Hcs := Lib.hid hcs; have HC10 := Lib.hid (Kd.C_below HC9.out hb); have HA10 := Lib.hid (Kd.C_below HA9.out hb); have HX10 := Lib.hid (HX9.out.below hb); have HY10 := Lib.hid (HY9.out.below hb); have HB10 := Lib.hid (HB9.out.trans (hb.mono HB9.out.size)); clear hb hCs hcs HC9 HA9 HX9 HY9 HB9)
    | (go_at_call 43; first
        | (refine (same_calls Bs B7 cs c7 n (sortI ([] : List (Int × Int))) _ HS10.out HC10.out (by rw [sortI_length]; exact HN.out) Hcs.out Hc7.out (by rw [sortI_length]; exact HL.out)).mono ?_; rintro e w11 ⟨rfl, q11, hw⟩; have HC11 : Hid (Kd.C k41 w11 B7 n ((sortI ([] : List (Int × Int))).map toS)) := Lib.hid (by rw [hw]; exact Kd.C_drewN HC10.out _); have HA11 : Hid (Kd.C k41 w11 A6 n (([] : List (Int × Int)).map toS)) := Lib.hid (by rw [hw]; exact Kd.C_drewN HA10.out _); have HX11 : Hid (Blk w11 w8.heap.size #[.int .i64 ((0, 0) : Int × Int).1, .int .i64 ((0, 0) : Int × Int).2] 41) := Lib.hid (by rw [hw]; exact HX10.out.drewN _); have HY11 : Hid (Blk w11 w9.heap.size #[.int .i64 ((0, 0) : Int × Int).1, .int .i64 ((0, 0) : Int × Int).2] 41) := Lib.hid (by rw [hw]; exact HY10.out.drewN _); have HB11 : Hid (Below w.heap.size w w11) := Lib.hid (by rw [hw]; exact pw_below_drewN HB10.out _); clear hw HS10 HC10 HA10 HX10 HY10 HB10)
        | (refine (same_calls A A6 c c6 n ([] : List (Int × Int)) _ (Kd.C_below HC.out HB11.out) HA11.out HN.out HCc.out Hc6.out HL.out).mono ?_; rintro e w12 ⟨rfl, q12, hw⟩; have HC12 : Hid (Kd.C k41 w12 B7 n ((sortI ([] : List (Int × Int))).map toS)) := Lib.hid (by rw [hw]; exact Kd.C_drewN HC11.out _); have HX12 : Hid (Blk w12 w8.heap.size #[.int .i64 ((0, 0) : Int × Int).1, .int .i64 ((0, 0) : Int × Int).2] 41) := Lib.hid (by rw [hw]; exact HX11.out.drewN _); have HY12 : Hid (Blk w12 w9.heap.size #[.int .i64 ((0, 0) : Int × Int).1, .int .i64 ((0, 0) : Int × Int).2] 41) := Lib.hid (by rw [hw]; exact HY11.out.drewN _); have HB12 : Hid (Below w.heap.size w w12) := Lib.hid (by rw [hw]; exact pw_below_drewN HB11.out _); clear hw HC11 HA11 HX11 HY11 HB11; have x0 := HX12.out.cell (j := 0) rfl; have x1 := HX12.out.cell (j := 1) rfl; have y0 := HY12.out.cell (j := 0) rfl; have y1 := HY12.out.cell (j := 1) rfl)))
  go_ret
  exact ⟨rfl, HB12.out⟩
set_option maxRecDepth 100000 in
set_option maxHeartbeats 8000000 in
theorem law_cons (A : Option Addr) (n c : Nat) (o : Int × Int) (t : List (Int × Int)) (w : World) (hC : Kd.C k41 w A n ((o :: t).map toS)) (hn : n = (o :: t).length) (hc : n ≤ c) (hl : (o :: t).length ≤ 100) (he : Env w) :
    Calls Tryd.prog 15 #[.slice A n c] w fun e w' => e = .returned (.bool true) ∧ Below w.heap.size w w' := by
  have hu41 := Tryd.underlying41
  have HAW : Hid (∀ w1, Below w.heap.size w w1 → Calls Tryd.prog 24 #[] w1 fun e w' => e = .returned (.bool true) ∧ Below w1.heap.size w1 w') := Lib.hid (fun w1 hb => awake w1 (he.step hb))
  have HC := Lib.hid hC
  have HN := Lib.hid hn
  have HCc := Lib.hid hc
  have HL := Lib.hid hl
  have t1 : decide ((n : Int) > 100) = false := decide_eq_false (by omega)
  have t2 : decide (100 < (n : Int)) = false := decide_eq_false (by omega)
  have HLE : Hid (∀ w', Below w.heap.size w w' → Calls Tryd.prog 41 #[.slice A n c] w' fun e w'' => e = .returned (.tuple #[.agg #[.int .i64 (bestI 1 o t).1, .int .i64 (bestI 1 o t).2], .bool true]) ∧ Below w'.heap.size w' w'') := Lib.hid (fun w' hb => least_calls A c n (o :: t) w' (Kd.C_below hC hb) hn hc hl)
  have HMO : Hid (∀ w', Below w.heap.size w w' → Calls Tryd.prog 42 #[.slice A n c] w' fun e w'' => e = .returned (.tuple #[.agg #[.int .i64 (bestI (-1) o t).1, .int .i64 (bestI (-1) o t).2], .bool true]) ∧ Below w'.heap.size w' w'') := Lib.hid (fun w' hb => most_calls A c n (o :: t) w' (Kd.C_below hC hb) hn hc hl)
  have F1 := Lib.hid (least_first o t)
  have F2 := Lib.hid (most_last o t)
  generalize bestI 1 o t = M1 at HLE F1
  generalize bestI (-1) o t = M2 at HMO F2
  have p1 : decide ((n : Int) > 0) = true := decide_eq_true (by simp at hn; omega)
  have p2 : decide (0 < (n : Int)) = true := decide_eq_true (by simp at hn; omega)
  have p3 : (0 < n) = True := eq_true (by simp at hn; omega)

  clear he hC hn hc hl
  go_enter Tryd.func15, Tryd.ntmps15
  go_wp2_with (first
    | (go_at_call 24; refine (HAW.out _ (Below.refl _ _)).mono ?_; rintro e w1 ⟨rfl, hb⟩; have HB1 := Lib.hid hb; clear hb HAW)
    | (refine gate_dst (N := 17) rfl ?_; refine Kd.R_lit k41 w.heap.size 41 ?_ (N := 17) ?_ (xs := ([] : List S41)) (inner := []) (ok := fun k => w.heap.size ≤ k) (okp := fun _ => False) ?_ ?_ (fun _ hk => hk.elim) HB1.out.size HB1.out HB1.out.size (by simp) ?_; rfl; rfl; (next => first | (go_simp; done) | (go_simp; rfl)); exact Reps.none _ _; intro ve we hE hbE _ _; have HE := Lib.hid hE; have HBE := Lib.hid hbE; have HCe := Lib.hid (Kd.C_below HC.out hbE); clear hE hbE HB1)
    | (refine gate_dst (N := 19) rfl ?_; refine Kd.R_append_rows k41 (w0 := w) w.heap.size rfl (.tmp 17) (.tmp 18) 63 41 (.agg #[.int .i64 0, .int .i64 0]) 16 rfl Tryd.underlying63 info41 rfl (by decide) (by omega) ve [] ((o :: t).map toS) A n c (fun k => w.heap.size ≤ k) (fun _ => False) rfl rfl HE.out HCe.out (fun _ _ h => h) (fun _ h => h.elim) (fun k hk => Nat.le_trans HBE.out.size hk) HBE.out HBE.out.size (by have := HL.out; have := HN.out; simp; omega) ?_; intro v6 w6 hR6 hB6 _ _; rw [List.nil_append] at hR6; obtain ⟨A6, c6, rfl, hc6, hC6⟩ := Kd.R_reads hR6; rw [List.length_map, ← HN.out] at hc6 hC6 ⊢; have HC6 := Lib.hid hC6; have Hc6 := Lib.hid hc6; have HB6 := Lib.hid hB6; clear hR6 hB6 hC6 hc6 HE HBE HCe)
    | (go_at_call 40; refine (rsorted_calls A6 c6 n (o :: t) _ HC6.out HN.out Hc6.out HL.out).mono ?_; rintro e w7 ⟨B7, c7, rfl, hc7, hC7, hb⟩; have HC7 := Lib.hid hC7; have Hc7 := Lib.hid hc7; have HB7 := Lib.hid (HB6.out.trans (hb.mono HB6.out.size)); have HA7 := Lib.hid (Kd.C_below HC6.out hb); clear hc7 hC7 hb HB6 HC6)
    | (go_at_call 41; refine (HLE.out _ HB7.out).mono ?_; rintro e w8 ⟨rfl, hb⟩; have HC8 := Lib.hid (Kd.C_below (Kd.C_below HC7.out hb) (Below.refl _ _ |>.alloc (Nat.le_refl _) (.cells #[.int .i64 M1.1, .int .i64 M1.2] 41))); have HB8 := Lib.hid ((HB7.out.trans (hb.mono HB7.out.size)).alloc (Nat.le_trans HB7.out.size hb.size) (.cells #[.int .i64 M1.1, .int .i64 M1.2] 41)); have HX8 : Hid (Blk (w8.alloc (.cells #[.int .i64 M1.1, .int .i64 M1.2] 41)) w8.heap.size #[.int .i64 M1.1, .int .i64 M1.2] 41) := Lib.hid (Blk.new _ _ _); have HA8 := Lib.hid (Kd.C_below (Kd.C_below HA7.out hb) (Below.refl _ _ |>.alloc (Nat.le_refl _) (.cells #[.int .i64 M1.1, .int .i64 M1.2] 41))); clear hb HB7 HC7 HA7 HLE)
    | (go_at_call 42; refine (HMO.out _ HB8.out).mono ?_; rintro e w9 ⟨rfl, hb⟩; have HC9 := Lib.hid (Kd.C_below (Kd.C_below HC8.out hb) (Below.refl _ _ |>.alloc (Nat.le_refl _) (.cells #[.int .i64 M2.1, .int .i64 M2.2] 41))); have HB9 := Lib.hid ((HB8.out.trans (hb.mono HB8.out.size)).alloc (Nat.le_trans HB8.out.size hb.size) (.cells #[.int .i64 M2.1, .int .i64 M2.2] 41)); have HX9 := Lib.hid ((HX8.out.below hb).alloc (.cells #[.int .i64 M2.1, .int .i64 M2.2] 41)); have HY9 : Hid (Blk (w9.alloc (.cells #[.int .i64 M2.1, .int .i64 M2.2] 41)) w9.heap.size #[.int .i64 M2.1, .int .i64 M2.2] 41) := Lib.hid (Blk.new _ _ _); have HA9 := Lib.hid (Kd.C_below (Kd.C_below HA8.out hb) (Below.refl _ _ |>.alloc (Nat.le_refl _) (.cells #[.int .i64 M2.1, .int .i64 M2.2] 41))); clear hb HB8 HC8 HA8 HX8 HMO)
    | (go_at_call 44; refine (sorted_calls A c n (o :: t) _ (Kd.C_below HC.out HB9.out) HN.out HL.out).mono ?_; rintro e w10 ⟨Bs, cs, rfl, hcs, hCs, hb⟩; have HS10 := Lib.hid hCs; have Hcs := Lib.hid hcs; have HC10 := Lib.hid (Kd.C_below HC9.out hb); have HA10 := Lib.hid (Kd.C_below HA9.out hb); have HX10 := Lib.hid (HX9.out.below hb); have HY10 := Lib.hid (HY9.out.below hb); have HB10 := Lib.hid (HB9.out.trans (hb.mono HB9.out.size)); clear hb hCs hcs HC9 HA9 HX9 HY9 HB9)
    | (go_at_call 43; first
        | (refine (same_calls Bs B7 cs c7 n (sortI (o :: t)) _ HS10.out HC10.out (by rw [sortI_length]; exact HN.out) Hcs.out Hc7.out (by rw [sortI_length]; exact HL.out)).mono ?_; rintro e w11 ⟨rfl, q11, hw⟩; have HC11 : Hid (Kd.C k41 w11 B7 n ((sortI (o :: t)).map toS)) := Lib.hid (by rw [hw]; exact Kd.C_drewN HC10.out _); have HA11 : Hid (Kd.C k41 w11 A6 n ((o :: t).map toS)) := Lib.hid (by rw [hw]; exact Kd.C_drewN HA10.out _); have HX11 : Hid (Blk w11 w8.heap.size #[.int .i64 M1.1, .int .i64 M1.2] 41) := Lib.hid (by rw [hw]; exact HX10.out.drewN _); have HY11 : Hid (Blk w11 w9.heap.size #[.int .i64 M2.1, .int .i64 M2.2] 41) := Lib.hid (by rw [hw]; exact HY10.out.drewN _); have HB11 : Hid (Below w.heap.size w w11) := Lib.hid (by rw [hw]; exact pw_below_drewN HB10.out _); clear hw HS10 HC10 HA10 HX10 HY10 HB10)
        | (refine (same_calls A A6 c c6 n (o :: t) _ (Kd.C_below HC.out HB11.out) HA11.out HN.out HCc.out Hc6.out HL.out).mono ?_; rintro e w12 ⟨rfl, q12, hw⟩; have HC12 : Hid (Kd.C k41 w12 B7 n ((sortI (o :: t)).map toS)) := Lib.hid (by rw [hw]; exact Kd.C_drewN HC11.out _); have HX12 : Hid (Blk w12 w8.heap.size #[.int .i64 M1.1, .int .i64 M1.2] 41) := Lib.hid (by rw [hw]; exact HX11.out.drewN _); have HY12 : Hid (Blk w12 w9.heap.size #[.int .i64 M2.1, .int .i64 M2.2] 41) := Lib.hid (by rw [hw]; exact HY11.out.drewN _); have HB12 : Hid (Below w.heap.size w w12) := Lib.hid (by rw [hw]; exact pw_below_drewN HB11.out _); clear hw HC11 HA11 HX11 HY11 HB11; have x0 := HX12.out.cell (j := 0) rfl; have x1 := HX12.out.cell (j := 1) rfl; have y0 := HY12.out.cell (j := 0) rfl; have y1 := HY12.out.cell (j := 1) rfl)))
  obtain ⟨ad, rfl, s0, s1⟩ := at_I HC12.out (i := 0) (by have := HN.out; simp at this; omega) F1.out
  obtain ⟨ad', ead, s2, s3⟩ := at_I HC12.out (i := t.length) (by have := HN.out; simp at this; omega) F2.out
  cases ead
  rw [Nat.zero_mul, Addr.add_zero'] at s0 s1
  obtain ⟨b, off, rfl⟩ : ∃ b off, ad = ⟨b, off, none⟩ := ⟨_, _, spot_none s0⟩
  rw [Addr.add_lit] at s2 s3
  have e1 : t.length = n - 1 := by have := HN.out; simp at this; omega
  rw [e1] at s2 s3
  have HE1 : Hid (1 ≤ n ∧ n ≤ 100) := Lib.hid (by have := HN.out; have := HL.out; simp at *; omega)
  have q1 : wrap64 ((n : Int) - 1) = ((n - 1 : Nat) : Int) := by have := HE1.out; rw [wrap64_in _ (by omega)]; omega
  have q2 : (n - 1 < n) = True := eq_true (by have := HE1.out; omega)
  clear HC12 HX12 HY12 F1 F2 HN HL e1
  go_quiet (fail)
  go_wp2_with fail
  go_ret
  exact ⟨rfl, pw_below_drewN HB12.out _⟩
theorem C_toS {w : World} {A : Option Addr} {n : Nat} {xs : List (Int × Int)} (h : Kd.C (Kd.pair (Kd.int .i64) (Kd.int .i64)) w A n xs) : Kd.C k41 w A n (xs.map toS) := by
  obtain ⟨h1, h2, h3⟩ := h
  refine ⟨by rw [List.length_map]; exact h1, h2, fun hp => ?_⟩
  obtain ⟨ad, e, hr⟩ := h3 hp
  refine ⟨ad, e, fun j p hj => ?_⟩
  rw [List.getElem?_map] at hj
  cases hx : xs[j]? with
  | none => rw [hx] at hj; cases hj
  | some x =>
    rw [hx] at hj
    cases hj
    exact hr j x hx
theorem law_sorts (A : Option Addr) (n c : Nat) (l : List (Int × Int)) (w : World) (hC : Kd.C k41 w A n (l.map toS)) (hc : n ≤ c) (he : Env w) :
    Calls Tryd.prog 15 #[.slice A n c] w fun e w' => e = .returned (.bool true) ∧ Below w.heap.size w w' := by
  have hn : n = l.length := by have := hC.1; rw [List.length_map] at this; exact this.symm
  by_cases hb : 100 < n
  · exact law_big A n c w hb he
  · cases l with
    | nil => exact law_nil A n c w hC hn hc (by simp) he
    | cons o t => exact law_cons A n c o t w hC hn hc (by omega) he
theorem row_sorts (A : Option Addr) (len cap : Nat) (xs : List (Int × Int)) (w : World) (hC : Kd.C (Kd.pair (Kd.int .i64) (Kd.int .i64)) w A len xs) (hc : len ≤ cap) (_ : ∀ y ∈ xs, (Lit.int .i64 y.1).wf = true ∧ (Lit.int .i64 y.2).wf = true) (he : Env w) :
    Calls Tryd.prog 15 #[.slice A len cap] w fun e w' => e = .returned (.bool true) ∧ Below w.heap.size w w' := law_sorts A len cap xs w (C_toS hC) hc he
end Go.Proofs.YtddmlhcjbifkoaaDoor.Sort
