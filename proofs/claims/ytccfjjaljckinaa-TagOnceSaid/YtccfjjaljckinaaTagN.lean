/- Reviving an operation. -/
import Derived.Test.YtccfjjaljckinaaTagM
namespace Go.Proofs.Ytccfjjaljckinaa.Tag
open Go.RowKit Go.Lib Go.Shelf Go.Proofs.Ytccfjjaljckinaa.Mem Go.Proofs.Ytccfjjaljckinaa.IMap Go.Proofs.YtccfjjaljckinaaW.PrintWords

section
variable {w : World} {B M : Nat} {v : Value} {t : Tab}
theorem TabV.slice (h : TabV w B M v t) : ∃ A cap, v = .slice A t.slots.length cap := by
  rcases h.row.2 with ⟨rfl, h0⟩ | ⟨R, cap, cur, rfl, _⟩
  · exact ⟨none, 0, by rw [h0]⟩
  · exact ⟨_, _, rfl⟩
set_option maxRecDepth 100000 in
set_option maxHeartbeats 1000000 in
theorem revive_may (h : TabV w B M v t) {ri g : Int} {o : TOp} (ho : In64 o.time ∧ In64 o.key ∧ In64 o.id) (he : mayE t o.time ≠ 0) :
    Calls Try.prog 13 #[.pointer (some ⟨B, 0, none⟩), aggListed ri g o] w fun e w' => e = .returned (.int .i64 (mayE t o.time)) ∧ Below w.heap.size w w' := by
  have CM : Hid (∀ w1, Below w.heap.size w w1 → Calls Try.prog 29 #[.pointer (some ⟨B, 0, none⟩), .int .i64 o.time] w1 fun e w' => e = .returned (.int .i64 (mayE t o.time)) ∧ ∃ n, w' = w1.drewN n) := Lib.hid (fun w1 hb => may (h.fresh hb) ho.1)
  have hu34 := Try.underlying34
  have hu32 := Try.underlying32
  have hu30 := Try.underlying30
  have hu28 := Try.underlying28
  have HT := Lib.hid h
  have HO := Lib.hid ho
  have hBl := h.head.lt
  have hMl := h.map.lt
  have hfew := h.good.few
  obtain ⟨A, cap, hv⟩ := h.slice
  have HV := Lib.hid hv
  clear hv
  generalize hE : mayE t o.time = E at *
  have HE := Lib.hid hE
  clear hE
  have t1 : (E == 0) = false := beq_eq_false_iff_ne.2 he
  have t2 : (E != 0) = true := by rw [bne, t1]; rfl
  clear he
  clear h ho
  unfold aggListed
  go_enter Try.func13, Try.ntmps13
  go_wp2_with fail
  refine gw (fun wa hwa => ?_)
  have HB1 : Hid (Below w.heap.size w wa) := Lib.hid (by rw [← hwa]; exact ((Below.refl _ _).alloc (Nat.le_refl _) _).alloc (by simp) _)
  have HX1 : Hid (Blk wa w.heap.size #[.int .i64 ri, .int .i64 g, .int .i64 o.time, .bool o.ins, .int .i64 o.key, .int .i64 o.id] 34) := Lib.hid (by rw [← hwa]; exact (Blk.new _ _ _).alloc _)
  have HY1 : Hid (Blk wa (w.heap.size + 1) #[.int .i64 ri, .int .i64 g] 28) := Lib.hid (by rw [← hwa]; exact Blk.at_ (by simp) _ _)
  clear hwa
  refine (CM.out _ HB1.out).mono ?_
  rintro e w2 ⟨rfl, n, rfl⟩
  have HX2 : Hid (Blk (wa.drewN n) w.heap.size #[.int .i64 ri, .int .i64 g, .int .i64 o.time, .bool o.ins, .int .i64 o.key, .int .i64 o.id] 34) := Lib.hid (HX1.out.drewN n)
  have HY2 : Hid (Blk (wa.drewN n) (w.heap.size + 1) #[.int .i64 ri, .int .i64 g] 28) := Lib.hid (HY1.out.drewN n)
  have HB2 : Hid (Below w.heap.size w (wa.drewN n)) := Lib.hid (bdn HB1.out n)
  generalize wa.drewN n = w2 at *
  clear HB1 HX1 HY1 CM
  go_wp2_with fail
  go_ret
  exact ⟨rfl, HB2.out⟩

set_option maxRecDepth 100000 in
set_option maxHeartbeats 1000000 in
theorem revive_b1 (h : TabV w B M v t) {ri g : Int} {o : TOp} (ho : In64 o.time ∧ In64 o.key ∧ In64 o.id) (he : mayE t o.time = 0) (h1 : ri < 0) :
    Calls Try.prog 13 #[.pointer (some ⟨B, 0, none⟩), aggListed ri g o] w fun e w' => e = .returned (.int .i64 13) ∧ Below w.heap.size w w' := by
  have CM : Hid (∀ w1, Below w.heap.size w w1 → Calls Try.prog 29 #[.pointer (some ⟨B, 0, none⟩), .int .i64 o.time] w1 fun e w' => e = .returned (.int .i64 (mayE t o.time)) ∧ ∃ n, w' = w1.drewN n) := Lib.hid (fun w1 hb => may (h.fresh hb) ho.1)
  have hu34 := Try.underlying34
  have hu32 := Try.underlying32
  have hu30 := Try.underlying30
  have hu28 := Try.underlying28
  have HT := Lib.hid h
  have HO := Lib.hid ho
  have hBl := h.head.lt
  have hMl := h.map.lt
  have hfew := h.good.few
  obtain ⟨A, cap, hv⟩ := h.slice
  have HV := Lib.hid hv
  clear hv
  rw [he] at CM
  clear he
  clear h ho
  unfold aggListed
  go_enter Try.func13, Try.ntmps13
  go_wp2_with fail
  refine gw (fun wa hwa => ?_)
  have HB1 : Hid (Below w.heap.size w wa) := Lib.hid (by rw [← hwa]; exact ((Below.refl _ _).alloc (Nat.le_refl _) _).alloc (by simp) _)
  have HX1 : Hid (Blk wa w.heap.size #[.int .i64 ri, .int .i64 g, .int .i64 o.time, .bool o.ins, .int .i64 o.key, .int .i64 o.id] 34) := Lib.hid (by rw [← hwa]; exact (Blk.new _ _ _).alloc _)
  have HY1 : Hid (Blk wa (w.heap.size + 1) #[.int .i64 ri, .int .i64 g] 28) := Lib.hid (by rw [← hwa]; exact Blk.at_ (by simp) _ _)
  clear hwa
  refine (CM.out _ HB1.out).mono ?_
  rintro e w2 ⟨rfl, n, rfl⟩
  have HX2 : Hid (Blk (wa.drewN n) w.heap.size #[.int .i64 ri, .int .i64 g, .int .i64 o.time, .bool o.ins, .int .i64 o.key, .int .i64 o.id] 34) := Lib.hid (HX1.out.drewN n)
  have HY2 : Hid (Blk (wa.drewN n) (w.heap.size + 1) #[.int .i64 ri, .int .i64 g] 28) := Lib.hid (HY1.out.drewN n)
  have HB2 : Hid (Below w.heap.size w (wa.drewN n)) := Lib.hid (bdn HB1.out n)
  generalize wa.drewN n = w2 at *
  clear HB1 HX1 HY1 CM
  have y0 := HY2.out.cell (j := 0) rfl
  have y1 := HY2.out.cell (j := 1) rfl
  have c2 : w2.cell? ⟨B, 2, none⟩ = some (.slice A t.slots.length cap) := by rw [← HV.out]; exact bcell HB2.out HT.out.c2 hBl
  clear HX2 HY2
  have t1 : decide (ri < 0) = true := decide_eq_true h1
  clear h1
  go_wp2_with fail
  go_quiet (fail)
  go_wp2_with fail
  go_ret
  exact ⟨rfl, by (repeat (refine bdn ?_ _)); exact HB2.out⟩

set_option maxRecDepth 100000 in
set_option maxHeartbeats 1000000 in
theorem revive_b2 (h : TabV w B M v t) {ri g : Int} {o : TOp} (ho : In64 o.time ∧ In64 o.key ∧ In64 o.id) (he : mayE t o.time = 0) (h1 : ¬ ri < 0) (h2 : (t.slots.length : Int) ≤ ri) :
    Calls Try.prog 13 #[.pointer (some ⟨B, 0, none⟩), aggListed ri g o] w fun e w' => e = .returned (.int .i64 13) ∧ Below w.heap.size w w' := by
  have CM : Hid (∀ w1, Below w.heap.size w w1 → Calls Try.prog 29 #[.pointer (some ⟨B, 0, none⟩), .int .i64 o.time] w1 fun e w' => e = .returned (.int .i64 (mayE t o.time)) ∧ ∃ n, w' = w1.drewN n) := Lib.hid (fun w1 hb => may (h.fresh hb) ho.1)
  have hu34 := Try.underlying34
  have hu32 := Try.underlying32
  have hu30 := Try.underlying30
  have hu28 := Try.underlying28
  have HT := Lib.hid h
  have HO := Lib.hid ho
  have hBl := h.head.lt
  have hMl := h.map.lt
  have hfew := h.good.few
  obtain ⟨A, cap, hv⟩ := h.slice
  have HV := Lib.hid hv
  clear hv
  rw [he] at CM
  clear he
  clear h ho
  unfold aggListed
  go_enter Try.func13, Try.ntmps13
  go_wp2_with fail
  refine gw (fun wa hwa => ?_)
  have HB1 : Hid (Below w.heap.size w wa) := Lib.hid (by rw [← hwa]; exact ((Below.refl _ _).alloc (Nat.le_refl _) _).alloc (by simp) _)
  have HX1 : Hid (Blk wa w.heap.size #[.int .i64 ri, .int .i64 g, .int .i64 o.time, .bool o.ins, .int .i64 o.key, .int .i64 o.id] 34) := Lib.hid (by rw [← hwa]; exact (Blk.new _ _ _).alloc _)
  have HY1 : Hid (Blk wa (w.heap.size + 1) #[.int .i64 ri, .int .i64 g] 28) := Lib.hid (by rw [← hwa]; exact Blk.at_ (by simp) _ _)
  clear hwa
  refine (CM.out _ HB1.out).mono ?_
  rintro e w2 ⟨rfl, n, rfl⟩
  have HX2 : Hid (Blk (wa.drewN n) w.heap.size #[.int .i64 ri, .int .i64 g, .int .i64 o.time, .bool o.ins, .int .i64 o.key, .int .i64 o.id] 34) := Lib.hid (HX1.out.drewN n)
  have HY2 : Hid (Blk (wa.drewN n) (w.heap.size + 1) #[.int .i64 ri, .int .i64 g] 28) := Lib.hid (HY1.out.drewN n)
  have HB2 : Hid (Below w.heap.size w (wa.drewN n)) := Lib.hid (bdn HB1.out n)
  generalize wa.drewN n = w2 at *
  clear HB1 HX1 HY1 CM
  have y0 := HY2.out.cell (j := 0) rfl
  have y1 := HY2.out.cell (j := 1) rfl
  have c2 : w2.cell? ⟨B, 2, none⟩ = some (.slice A t.slots.length cap) := by rw [← HV.out]; exact bcell HB2.out HT.out.c2 hBl
  clear HX2 HY2
  have t1 : decide (ri < 0) = false := decide_eq_false (by omega)
  have t2 : decide ((t.slots.length : Int) ≤ ri) = true := decide_eq_true h2
  clear h1
  go_wp2_with fail
  go_quiet (fail)
  go_wp2_with fail
  go_ret
  exact ⟨rfl, by (repeat (refine bdn ?_ _)); exact HB2.out⟩

set_option maxRecDepth 100000 in
set_option maxHeartbeats 1000000 in
theorem revive_b3 (h : TabV w B M v t) {g : Int} {o : TOp} {i : Nat} {s : Slot} (ho : In64 o.time ∧ In64 o.key ∧ In64 o.id) (he : mayE t o.time = 0) (hs : t.slots[i]? = some s) (h3 : 0 < s.gen) :
    Calls Try.prog 13 #[.pointer (some ⟨B, 0, none⟩), aggListed (i : Int) g o] w fun e w' => e = .returned (.int .i64 13) ∧ Below w.heap.size w w' := by
  have CM : Hid (∀ w1, Below w.heap.size w w1 → Calls Try.prog 29 #[.pointer (some ⟨B, 0, none⟩), .int .i64 o.time] w1 fun e w' => e = .returned (.int .i64 (mayE t o.time)) ∧ ∃ n, w' = w1.drewN n) := Lib.hid (fun w1 hb => may (h.fresh hb) ho.1)
  have hu34 := Try.underlying34
  have hu32 := Try.underlying32
  have hu30 := Try.underlying30
  have hu28 := Try.underlying28
  have HT := Lib.hid h
  have HO := Lib.hid ho
  have hBl := h.head.lt
  have hMl := h.map.lt
  have hfew := h.good.few
  obtain ⟨A, cap, hv⟩ := h.slice
  have HV := Lib.hid hv
  clear hv
  rw [he] at CM
  clear he
  obtain ⟨R, cap', hv', hR, hle, hRB, hRM, hcc, hfr⟩ := HT.out.cells hs
  obtain ⟨rfl, _, rfl⟩ : A = some ⟨R, 0, none⟩ ∧ True ∧ cap = cap' := by
    have := HV.out.symm.trans hv'
    injection this with e1 e2 e3
    exact ⟨e1, trivial, e3⟩
  have HC : Hid (∀ j u, (encSlot s)[j]? = some u → w.cell? ⟨R, i * 6 + j, none⟩ = some u) := Lib.hid hcc
  have hlt := (List.getElem?_eq_some_iff.1 hs).1
  have HS := Lib.hid hs
  clear hv' hcc hfr hle hs
  clear h ho
  unfold aggListed
  go_enter Try.func13, Try.ntmps13
  go_wp2_with fail
  refine gw (fun wa hwa => ?_)
  have HB1 : Hid (Below w.heap.size w wa) := Lib.hid (by rw [← hwa]; exact ((Below.refl _ _).alloc (Nat.le_refl _) _).alloc (by simp) _)
  have HX1 : Hid (Blk wa w.heap.size #[.int .i64 (i : Int), .int .i64 g, .int .i64 o.time, .bool o.ins, .int .i64 o.key, .int .i64 o.id] 34) := Lib.hid (by rw [← hwa]; exact (Blk.new _ _ _).alloc _)
  have HY1 : Hid (Blk wa (w.heap.size + 1) #[.int .i64 (i : Int), .int .i64 g] 28) := Lib.hid (by rw [← hwa]; exact Blk.at_ (by simp) _ _)
  clear hwa
  refine (CM.out _ HB1.out).mono ?_
  rintro e w2 ⟨rfl, n, rfl⟩
  have HX2 : Hid (Blk (wa.drewN n) w.heap.size #[.int .i64 (i : Int), .int .i64 g, .int .i64 o.time, .bool o.ins, .int .i64 o.key, .int .i64 o.id] 34) := Lib.hid (HX1.out.drewN n)
  have HY2 : Hid (Blk (wa.drewN n) (w.heap.size + 1) #[.int .i64 (i : Int), .int .i64 g] 28) := Lib.hid (HY1.out.drewN n)
  have HB2 : Hid (Below w.heap.size w (wa.drewN n)) := Lib.hid (bdn HB1.out n)
  generalize wa.drewN n = w2 at *
  clear HB1 HX1 HY1 CM
  have y0 := HY2.out.cell (j := 0) rfl
  have y1 := HY2.out.cell (j := 1) rfl
  have c2 : w2.cell? ⟨B, 2, none⟩ = some (.slice (some ⟨R, 0, none⟩) t.slots.length cap) := by rw [← HV.out]; exact bcell HB2.out HT.out.c2 hBl
  clear HX2 HY2
  have k1 : w2.cell? ⟨R, i * 6 + 1, none⟩ = some (.int .i64 s.gen) := bcell HB2.out (HC.out 1 _ rfl) hR
  have k0 : w2.cell? ⟨R, i * 6, none⟩ = some (.int .i64 s.last) := bcell HB2.out (HC.out 0 _ rfl) hR
  generalize hNN : t.slots.length = N at *
  have HNN := Lib.hid hNN
  clear hNN
  have t1 : decide ((i : Int) < 0) = false := decide_eq_false (by omega)
  have t2 : decide (N ≤ i) = false := decide_eq_false (by omega)
  have hi0 : (0 : Int) ≤ i := by omega
  have hiN : (i : Int) < N := by omega
  have e1 : (i : Int).toNat = i := by omega
  have t3 : decide (0 < s.gen) = true := decide_eq_true h3
  go_wp2_with fail
  go_quiet (fail)
  go_wp2_with fail
  go_ret
  exact ⟨rfl, by (repeat (refine bdn ?_ _)); exact HB2.out⟩

set_option maxRecDepth 100000 in
set_option maxHeartbeats 1000000 in
theorem revive_b4 (h : TabV w B M v t) {g : Int} {o : TOp} {i : Nat} {s : Slot} (ho : In64 o.time ∧ In64 o.key ∧ In64 o.id) (he : mayE t o.time = 0) (hs : t.slots[i]? = some s) (h3 : ¬ 0 < s.gen) (h4 : g < 1) :
    Calls Try.prog 13 #[.pointer (some ⟨B, 0, none⟩), aggListed (i : Int) g o] w fun e w' => e = .returned (.int .i64 13) ∧ Below w.heap.size w w' := by
  have CM : Hid (∀ w1, Below w.heap.size w w1 → Calls Try.prog 29 #[.pointer (some ⟨B, 0, none⟩), .int .i64 o.time] w1 fun e w' => e = .returned (.int .i64 (mayE t o.time)) ∧ ∃ n, w' = w1.drewN n) := Lib.hid (fun w1 hb => may (h.fresh hb) ho.1)
  have hu34 := Try.underlying34
  have hu32 := Try.underlying32
  have hu30 := Try.underlying30
  have hu28 := Try.underlying28
  have HT := Lib.hid h
  have HO := Lib.hid ho
  have hBl := h.head.lt
  have hMl := h.map.lt
  have hfew := h.good.few
  obtain ⟨A, cap, hv⟩ := h.slice
  have HV := Lib.hid hv
  clear hv
  rw [he] at CM
  clear he
  obtain ⟨R, cap', hv', hR, hle, hRB, hRM, hcc, hfr⟩ := HT.out.cells hs
  obtain ⟨rfl, _, rfl⟩ : A = some ⟨R, 0, none⟩ ∧ True ∧ cap = cap' := by
    have := HV.out.symm.trans hv'
    injection this with e1 e2 e3
    exact ⟨e1, trivial, e3⟩
  have HC : Hid (∀ j u, (encSlot s)[j]? = some u → w.cell? ⟨R, i * 6 + j, none⟩ = some u) := Lib.hid hcc
  have hlt := (List.getElem?_eq_some_iff.1 hs).1
  have HS := Lib.hid hs
  clear hv' hcc hfr hle hs
  clear h ho
  unfold aggListed
  go_enter Try.func13, Try.ntmps13
  go_wp2_with fail
  refine gw (fun wa hwa => ?_)
  have HB1 : Hid (Below w.heap.size w wa) := Lib.hid (by rw [← hwa]; exact ((Below.refl _ _).alloc (Nat.le_refl _) _).alloc (by simp) _)
  have HX1 : Hid (Blk wa w.heap.size #[.int .i64 (i : Int), .int .i64 g, .int .i64 o.time, .bool o.ins, .int .i64 o.key, .int .i64 o.id] 34) := Lib.hid (by rw [← hwa]; exact (Blk.new _ _ _).alloc _)
  have HY1 : Hid (Blk wa (w.heap.size + 1) #[.int .i64 (i : Int), .int .i64 g] 28) := Lib.hid (by rw [← hwa]; exact Blk.at_ (by simp) _ _)
  clear hwa
  refine (CM.out _ HB1.out).mono ?_
  rintro e w2 ⟨rfl, n, rfl⟩
  have HX2 : Hid (Blk (wa.drewN n) w.heap.size #[.int .i64 (i : Int), .int .i64 g, .int .i64 o.time, .bool o.ins, .int .i64 o.key, .int .i64 o.id] 34) := Lib.hid (HX1.out.drewN n)
  have HY2 : Hid (Blk (wa.drewN n) (w.heap.size + 1) #[.int .i64 (i : Int), .int .i64 g] 28) := Lib.hid (HY1.out.drewN n)
  have HB2 : Hid (Below w.heap.size w (wa.drewN n)) := Lib.hid (bdn HB1.out n)
  generalize wa.drewN n = w2 at *
  clear HB1 HX1 HY1 CM
  have y0 := HY2.out.cell (j := 0) rfl
  have y1 := HY2.out.cell (j := 1) rfl
  have c2 : w2.cell? ⟨B, 2, none⟩ = some (.slice (some ⟨R, 0, none⟩) t.slots.length cap) := by rw [← HV.out]; exact bcell HB2.out HT.out.c2 hBl
  clear HX2 HY2
  have k1 : w2.cell? ⟨R, i * 6 + 1, none⟩ = some (.int .i64 s.gen) := bcell HB2.out (HC.out 1 _ rfl) hR
  have k0 : w2.cell? ⟨R, i * 6, none⟩ = some (.int .i64 s.last) := bcell HB2.out (HC.out 0 _ rfl) hR
  generalize hNN : t.slots.length = N at *
  have HNN := Lib.hid hNN
  clear hNN
  have t1 : decide ((i : Int) < 0) = false := decide_eq_false (by omega)
  have t2 : decide (N ≤ i) = false := decide_eq_false (by omega)
  have hi0 : (0 : Int) ≤ i := by omega
  have hiN : (i : Int) < N := by omega
  have e1 : (i : Int).toNat = i := by omega
  have t3 : decide (0 < s.gen) = false := decide_eq_false (by omega)
  have t4 : decide (g < 1) = true := decide_eq_true h4
  go_wp2_with fail
  go_quiet (fail)
  go_wp2_with fail
  go_ret
  exact ⟨rfl, by (repeat (refine bdn ?_ _)); exact HB2.out⟩

set_option maxRecDepth 100000 in
set_option maxHeartbeats 1000000 in
theorem revive_b5 (h : TabV w B M v t) {g : Int} {o : TOp} {i : Nat} {s : Slot} (ho : In64 o.time ∧ In64 o.key ∧ In64 o.id) (he : mayE t o.time = 0) (hs : t.slots[i]? = some s) (h3 : ¬ 0 < s.gen) (h4 : ¬ g < 1) (h5 : s.last < g) :
    Calls Try.prog 13 #[.pointer (some ⟨B, 0, none⟩), aggListed (i : Int) g o] w fun e w' => e = .returned (.int .i64 13) ∧ Below w.heap.size w w' := by
  have CM : Hid (∀ w1, Below w.heap.size w w1 → Calls Try.prog 29 #[.pointer (some ⟨B, 0, none⟩), .int .i64 o.time] w1 fun e w' => e = .returned (.int .i64 (mayE t o.time)) ∧ ∃ n, w' = w1.drewN n) := Lib.hid (fun w1 hb => may (h.fresh hb) ho.1)
  have hu34 := Try.underlying34
  have hu32 := Try.underlying32
  have hu30 := Try.underlying30
  have hu28 := Try.underlying28
  have HT := Lib.hid h
  have HO := Lib.hid ho
  have hBl := h.head.lt
  have hMl := h.map.lt
  have hfew := h.good.few
  obtain ⟨A, cap, hv⟩ := h.slice
  have HV := Lib.hid hv
  clear hv
  rw [he] at CM
  clear he
  obtain ⟨R, cap', hv', hR, hle, hRB, hRM, hcc, hfr⟩ := HT.out.cells hs
  obtain ⟨rfl, _, rfl⟩ : A = some ⟨R, 0, none⟩ ∧ True ∧ cap = cap' := by
    have := HV.out.symm.trans hv'
    injection this with e1 e2 e3
    exact ⟨e1, trivial, e3⟩
  have HC : Hid (∀ j u, (encSlot s)[j]? = some u → w.cell? ⟨R, i * 6 + j, none⟩ = some u) := Lib.hid hcc
  have hlt := (List.getElem?_eq_some_iff.1 hs).1
  have HS := Lib.hid hs
  clear hv' hcc hfr hle hs
  clear h ho
  unfold aggListed
  go_enter Try.func13, Try.ntmps13
  go_wp2_with fail
  refine gw (fun wa hwa => ?_)
  have HB1 : Hid (Below w.heap.size w wa) := Lib.hid (by rw [← hwa]; exact ((Below.refl _ _).alloc (Nat.le_refl _) _).alloc (by simp) _)
  have HX1 : Hid (Blk wa w.heap.size #[.int .i64 (i : Int), .int .i64 g, .int .i64 o.time, .bool o.ins, .int .i64 o.key, .int .i64 o.id] 34) := Lib.hid (by rw [← hwa]; exact (Blk.new _ _ _).alloc _)
  have HY1 : Hid (Blk wa (w.heap.size + 1) #[.int .i64 (i : Int), .int .i64 g] 28) := Lib.hid (by rw [← hwa]; exact Blk.at_ (by simp) _ _)
  clear hwa
  refine (CM.out _ HB1.out).mono ?_
  rintro e w2 ⟨rfl, n, rfl⟩
  have HX2 : Hid (Blk (wa.drewN n) w.heap.size #[.int .i64 (i : Int), .int .i64 g, .int .i64 o.time, .bool o.ins, .int .i64 o.key, .int .i64 o.id] 34) := Lib.hid (HX1.out.drewN n)
  have HY2 : Hid (Blk (wa.drewN n) (w.heap.size + 1) #[.int .i64 (i : Int), .int .i64 g] 28) := Lib.hid (HY1.out.drewN n)
  have HB2 : Hid (Below w.heap.size w (wa.drewN n)) := Lib.hid (bdn HB1.out n)
  generalize wa.drewN n = w2 at *
  clear HB1 HX1 HY1 CM
  have y0 := HY2.out.cell (j := 0) rfl
  have y1 := HY2.out.cell (j := 1) rfl
  have c2 : w2.cell? ⟨B, 2, none⟩ = some (.slice (some ⟨R, 0, none⟩) t.slots.length cap) := by rw [← HV.out]; exact bcell HB2.out HT.out.c2 hBl
  clear HX2 HY2
  have k1 : w2.cell? ⟨R, i * 6 + 1, none⟩ = some (.int .i64 s.gen) := bcell HB2.out (HC.out 1 _ rfl) hR
  have k0 : w2.cell? ⟨R, i * 6, none⟩ = some (.int .i64 s.last) := bcell HB2.out (HC.out 0 _ rfl) hR
  generalize hNN : t.slots.length = N at *
  have HNN := Lib.hid hNN
  clear hNN
  have t1 : decide ((i : Int) < 0) = false := decide_eq_false (by omega)
  have t2 : decide (N ≤ i) = false := decide_eq_false (by omega)
  have hi0 : (0 : Int) ≤ i := by omega
  have hiN : (i : Int) < N := by omega
  have e1 : (i : Int).toNat = i := by omega
  have t3 : decide (0 < s.gen) = false := decide_eq_false (by omega)
  have t4 : decide (g < 1) = false := decide_eq_false (by omega)
  have t5 : decide (s.last < g) = true := decide_eq_true h5
  go_wp2_with fail
  go_quiet (fail)
  go_wp2_with fail
  go_ret
  exact ⟨rfl, by (repeat (refine bdn ?_ _)); exact HB2.out⟩

set_option maxRecDepth 100000 in
set_option maxHeartbeats 1000000 in
theorem revive_c1 (h : TabV w B M v t) {g : Int} {o : TOp} {i : Nat} {s : Slot} (ho : In64 o.time ∧ In64 o.key ∧ In64 o.id) (he : mayE t o.time = 0) (hs : t.slots[i]? = some s) (h3 : ¬ 0 < s.gen) (h4 : ¬ g < 1) (h5 : ¬ s.last < g) (hk : knownOf t o.id = false) :
    Calls Try.prog 13 #[.pointer (some ⟨B, 0, none⟩), aggListed (i : Int) g o] w fun e w' => e = .returned (.int .i64 2) ∧ Below w.heap.size w w' := by
  have CM : Hid (∀ w1, Below w.heap.size w w1 → Calls Try.prog 29 #[.pointer (some ⟨B, 0, none⟩), .int .i64 o.time] w1 fun e w' => e = .returned (.int .i64 (mayE t o.time)) ∧ ∃ n, w' = w1.drewN n) := Lib.hid (fun w1 hb => may (h.fresh hb) ho.1)
  have hu34 := Try.underlying34
  have hu32 := Try.underlying32
  have hu30 := Try.underlying30
  have hu28 := Try.underlying28
  have HT := Lib.hid h
  have HO := Lib.hid ho
  have hBl := h.head.lt
  have hMl := h.map.lt
  have hfew := h.good.few
  obtain ⟨A, cap, hv⟩ := h.slice
  have HV := Lib.hid hv
  clear hv
  rw [he] at CM
  clear he
  obtain ⟨R, cap', hv', hR, hle, hRB, hRM, hcc, hfr⟩ := HT.out.cells hs
  obtain ⟨rfl, _, rfl⟩ : A = some ⟨R, 0, none⟩ ∧ True ∧ cap = cap' := by
    have := HV.out.symm.trans hv'
    injection this with e1 e2 e3
    exact ⟨e1, trivial, e3⟩
  have HC : Hid (∀ j u, (encSlot s)[j]? = some u → w.cell? ⟨R, i * 6 + j, none⟩ = some u) := Lib.hid hcc
  have hlt := (List.getElem?_eq_some_iff.1 hs).1
  have HS := Lib.hid hs
  clear hv' hcc hfr hle hs
  clear h ho
  unfold aggListed
  go_enter Try.func13, Try.ntmps13
  go_wp2_with fail
  refine gw (fun wa hwa => ?_)
  have HB1 : Hid (Below w.heap.size w wa) := Lib.hid (by rw [← hwa]; exact ((Below.refl _ _).alloc (Nat.le_refl _) _).alloc (by simp) _)
  have HX1 : Hid (Blk wa w.heap.size #[.int .i64 (i : Int), .int .i64 g, .int .i64 o.time, .bool o.ins, .int .i64 o.key, .int .i64 o.id] 34) := Lib.hid (by rw [← hwa]; exact (Blk.new _ _ _).alloc _)
  have HY1 : Hid (Blk wa (w.heap.size + 1) #[.int .i64 (i : Int), .int .i64 g] 28) := Lib.hid (by rw [← hwa]; exact Blk.at_ (by simp) _ _)
  clear hwa
  refine (CM.out _ HB1.out).mono ?_
  rintro e w2 ⟨rfl, n, rfl⟩
  have HX2 : Hid (Blk (wa.drewN n) w.heap.size #[.int .i64 (i : Int), .int .i64 g, .int .i64 o.time, .bool o.ins, .int .i64 o.key, .int .i64 o.id] 34) := Lib.hid (HX1.out.drewN n)
  have HY2 : Hid (Blk (wa.drewN n) (w.heap.size + 1) #[.int .i64 (i : Int), .int .i64 g] 28) := Lib.hid (HY1.out.drewN n)
  have HB2 : Hid (Below w.heap.size w (wa.drewN n)) := Lib.hid (bdn HB1.out n)
  generalize wa.drewN n = w2 at *
  clear HB1 HX1 HY1 CM
  have y0 := HY2.out.cell (j := 0) rfl
  have y1 := HY2.out.cell (j := 1) rfl
  have c2 : w2.cell? ⟨B, 2, none⟩ = some (.slice (some ⟨R, 0, none⟩) t.slots.length cap) := by rw [← HV.out]; exact bcell HB2.out HT.out.c2 hBl
  have x5 := HX2.out.cell (j := 5) rfl
  have CK : Hid (∀ n, Calls Try.prog 33 #[.pointer (some ⟨B, 0, none⟩), .int .i64 o.id] (w2.drewN n) fun e w' => e = .returned (.bool (false)) ∧ Below (w2.drewN n).heap.size (w2.drewN n) w') := Lib.hid (fun n => by have := known (HT.out.fresh (bdn HB2.out n)) o.id; rw [hk] at this; exact this)
  have k1 : w2.cell? ⟨R, i * 6 + 1, none⟩ = some (.int .i64 s.gen) := bcell HB2.out (HC.out 1 _ rfl) hR
  have k0 : w2.cell? ⟨R, i * 6, none⟩ = some (.int .i64 s.last) := bcell HB2.out (HC.out 0 _ rfl) hR
  generalize hNN : t.slots.length = N at *
  have HNN := Lib.hid hNN
  clear hNN
  have t1 : decide ((i : Int) < 0) = false := decide_eq_false (by omega)
  have t2 : decide (N ≤ i) = false := decide_eq_false (by omega)
  have hi0 : (0 : Int) ≤ i := by omega
  have hiN : (i : Int) < N := by omega
  have e1 : (i : Int).toNat = i := by omega
  have t3 : decide (0 < s.gen) = false := decide_eq_false (by omega)
  have t4 : decide (g < 1) = false := decide_eq_false (by omega)
  have t5 : decide (s.last < g) = false := decide_eq_false (by omega)
  go_wp2_with fail
  go_quiet (fail)
  go_wp2_with fail
  refine (CK.out _).mono ?_
  rintro e w3 ⟨rfl, hb⟩
  have HB3 : Hid (Below w.heap.size w w3) := Lib.hid (btrans (bdn HB2.out _) hb)
  have HX3 : Hid (Blk w3 w.heap.size #[.int .i64 (i : Int), .int .i64 g, .int .i64 o.time, .bool o.ins, .int .i64 o.key, .int .i64 o.id] 34) := Lib.hid ((HX2.out.drewN _).below hb)
  have HY3 : Hid (Blk w3 (w.heap.size + 1) #[.int .i64 (i : Int), .int .i64 g] 28) := Lib.hid ((HY2.out.drewN _).below hb)
  clear hb CK y0 y1 c2 x5 k0 k1
  have x0 := HX3.out.cell (j := 0) rfl
  have x1 := HX3.out.cell (j := 1) rfl
  have x2 := HX3.out.cell (j := 2) rfl
  have x3 := HX3.out.cell (j := 3) rfl
  have x4 := HX3.out.cell (j := 4) rfl
  have x5 := HX3.out.cell (j := 5) rfl
  have y0 := HY3.out.cell (j := 0) rfl
  have y1 := HY3.out.cell (j := 1) rfl
  clear HX2 HY2 HX3 HY3
  go_wp2_with fail
  go_ret
  exact ⟨rfl, HB3.out⟩

set_option maxRecDepth 100000 in
set_option maxHeartbeats 1000000 in
theorem revive_c2 (h : TabV w B M v t) {g : Int} {o : TOp} {i : Nat} {s : Slot} (ho : In64 o.time ∧ In64 o.key ∧ In64 o.id) (he : mayE t o.time = 0) (hs : t.slots[i]? = some s) (h3 : ¬ 0 < s.gen) (h4 : ¬ g < 1) (h5 : ¬ s.last < g) (hk : knownOf t o.id = true) (hins : o.ins = false) (hkey : o.key ≠ 0) :
    Calls Try.prog 13 #[.pointer (some ⟨B, 0, none⟩), aggListed (i : Int) g o] w fun e w' => e = .returned (.int .i64 2) ∧ Below w.heap.size w w' := by
  have CM : Hid (∀ w1, Below w.heap.size w w1 → Calls Try.prog 29 #[.pointer (some ⟨B, 0, none⟩), .int .i64 o.time] w1 fun e w' => e = .returned (.int .i64 (mayE t o.time)) ∧ ∃ n, w' = w1.drewN n) := Lib.hid (fun w1 hb => may (h.fresh hb) ho.1)
  have hu34 := Try.underlying34
  have hu32 := Try.underlying32
  have hu30 := Try.underlying30
  have hu28 := Try.underlying28
  have HT := Lib.hid h
  have HO := Lib.hid ho
  have hBl := h.head.lt
  have hMl := h.map.lt
  have hfew := h.good.few
  obtain ⟨A, cap, hv⟩ := h.slice
  have HV := Lib.hid hv
  clear hv
  rw [he] at CM
  clear he
  have q1 : (o.key == 0) = false := beq_eq_false_iff_ne.2 hkey
  have q2 : (o.key != 0) = true := by rw [bne, q1]; rfl
  clear hkey
  obtain ⟨R, cap', hv', hR, hle, hRB, hRM, hcc, hfr⟩ := HT.out.cells hs
  obtain ⟨rfl, _, rfl⟩ : A = some ⟨R, 0, none⟩ ∧ True ∧ cap = cap' := by
    have := HV.out.symm.trans hv'
    injection this with e1 e2 e3
    exact ⟨e1, trivial, e3⟩
  have HC : Hid (∀ j u, (encSlot s)[j]? = some u → w.cell? ⟨R, i * 6 + j, none⟩ = some u) := Lib.hid hcc
  have hlt := (List.getElem?_eq_some_iff.1 hs).1
  have HS := Lib.hid hs
  clear hv' hcc hfr hle hs
  clear h ho
  unfold aggListed
  go_enter Try.func13, Try.ntmps13
  go_wp2_with fail
  refine gw (fun wa hwa => ?_)
  have HB1 : Hid (Below w.heap.size w wa) := Lib.hid (by rw [← hwa]; exact ((Below.refl _ _).alloc (Nat.le_refl _) _).alloc (by simp) _)
  have HX1 : Hid (Blk wa w.heap.size #[.int .i64 (i : Int), .int .i64 g, .int .i64 o.time, .bool false, .int .i64 o.key, .int .i64 o.id] 34) := Lib.hid (by rw [← hwa]; exact (Blk.new _ _ _).alloc _)
  have HY1 : Hid (Blk wa (w.heap.size + 1) #[.int .i64 (i : Int), .int .i64 g] 28) := Lib.hid (by rw [← hwa]; exact Blk.at_ (by simp) _ _)
  clear hwa
  refine (CM.out _ HB1.out).mono ?_
  rintro e w2 ⟨rfl, n, rfl⟩
  have HX2 : Hid (Blk (wa.drewN n) w.heap.size #[.int .i64 (i : Int), .int .i64 g, .int .i64 o.time, .bool false, .int .i64 o.key, .int .i64 o.id] 34) := Lib.hid (HX1.out.drewN n)
  have HY2 : Hid (Blk (wa.drewN n) (w.heap.size + 1) #[.int .i64 (i : Int), .int .i64 g] 28) := Lib.hid (HY1.out.drewN n)
  have HB2 : Hid (Below w.heap.size w (wa.drewN n)) := Lib.hid (bdn HB1.out n)
  generalize wa.drewN n = w2 at *
  clear HB1 HX1 HY1 CM
  have y0 := HY2.out.cell (j := 0) rfl
  have y1 := HY2.out.cell (j := 1) rfl
  have c2 : w2.cell? ⟨B, 2, none⟩ = some (.slice (some ⟨R, 0, none⟩) t.slots.length cap) := by rw [← HV.out]; exact bcell HB2.out HT.out.c2 hBl
  have x5 := HX2.out.cell (j := 5) rfl
  have CK : Hid (∀ n, Calls Try.prog 33 #[.pointer (some ⟨B, 0, none⟩), .int .i64 o.id] (w2.drewN n) fun e w' => e = .returned (.bool (true)) ∧ Below (w2.drewN n).heap.size (w2.drewN n) w') := Lib.hid (fun n => by have := known (HT.out.fresh (bdn HB2.out n)) o.id; rw [hk] at this; exact this)
  have k1 : w2.cell? ⟨R, i * 6 + 1, none⟩ = some (.int .i64 s.gen) := bcell HB2.out (HC.out 1 _ rfl) hR
  have k0 : w2.cell? ⟨R, i * 6, none⟩ = some (.int .i64 s.last) := bcell HB2.out (HC.out 0 _ rfl) hR
  generalize hNN : t.slots.length = N at *
  have HNN := Lib.hid hNN
  clear hNN
  have t1 : decide ((i : Int) < 0) = false := decide_eq_false (by omega)
  have t2 : decide (N ≤ i) = false := decide_eq_false (by omega)
  have hi0 : (0 : Int) ≤ i := by omega
  have hiN : (i : Int) < N := by omega
  have e1 : (i : Int).toNat = i := by omega
  have t3 : decide (0 < s.gen) = false := decide_eq_false (by omega)
  have t4 : decide (g < 1) = false := decide_eq_false (by omega)
  have t5 : decide (s.last < g) = false := decide_eq_false (by omega)
  go_wp2_with fail
  go_quiet (fail)
  go_wp2_with fail
  refine (CK.out _).mono ?_
  rintro e w3 ⟨rfl, hb⟩
  have HB3 : Hid (Below w.heap.size w w3) := Lib.hid (btrans (bdn HB2.out _) hb)
  have HX3 : Hid (Blk w3 w.heap.size #[.int .i64 (i : Int), .int .i64 g, .int .i64 o.time, .bool false, .int .i64 o.key, .int .i64 o.id] 34) := Lib.hid ((HX2.out.drewN _).below hb)
  have HY3 : Hid (Blk w3 (w.heap.size + 1) #[.int .i64 (i : Int), .int .i64 g] 28) := Lib.hid ((HY2.out.drewN _).below hb)
  clear hb CK y0 y1 c2 x5 k0 k1
  have x0 := HX3.out.cell (j := 0) rfl
  have x1 := HX3.out.cell (j := 1) rfl
  have x2 := HX3.out.cell (j := 2) rfl
  have x3 := HX3.out.cell (j := 3) rfl
  have x4 := HX3.out.cell (j := 4) rfl
  have x5 := HX3.out.cell (j := 5) rfl
  have y0 := HY3.out.cell (j := 0) rfl
  have y1 := HY3.out.cell (j := 1) rfl
  clear HX2 HY2 HX3 HY3
  go_wp2_with fail
  go_ret
  exact ⟨rfl, HB3.out⟩

set_option maxRecDepth 100000 in
set_option maxHeartbeats 1000000 in
theorem revive_ok1 (h : TabV w B M v t) {g : Int} {o : TOp} {i : Nat} {s : Slot} (ho : In64 o.time ∧ In64 o.key ∧ In64 o.id) (he : mayE t o.time = 0) (hs : t.slots[i]? = some s) (h3 : ¬ 0 < s.gen) (h4 : ¬ g < 1) (h5 : ¬ s.last < g) (hk : knownOf t o.id = true) (hins : o.ins = true) :
    Calls Try.prog 13 #[.pointer (some ⟨B, 0, none⟩), aggListed (i : Int) g o] w fun e w' => e = .returned (.int .i64 0) ∧ TabV w' B M v { t with slots := t.slots.set i ⟨s.last, g, o⟩ } ∧ Chg (fun k => k = M ∨ v.ownBlock = some k) w w' := by
  have CM : Hid (∀ w1, Below w.heap.size w w1 → Calls Try.prog 29 #[.pointer (some ⟨B, 0, none⟩), .int .i64 o.time] w1 fun e w' => e = .returned (.int .i64 (mayE t o.time)) ∧ ∃ n, w' = w1.drewN n) := Lib.hid (fun w1 hb => may (h.fresh hb) ho.1)
  have hu34 := Try.underlying34
  have hu32 := Try.underlying32
  have hu30 := Try.underlying30
  have hu28 := Try.underlying28
  have HT := Lib.hid h
  have HO := Lib.hid ho
  have hBl := h.head.lt
  have hMl := h.map.lt
  have hfew := h.good.few
  obtain ⟨A, cap, hv⟩ := h.slice
  have HV := Lib.hid hv
  clear hv
  have hnt : timesOf t.slots o.time = none := by
    unfold mayE at he
    split at he
    · cases he
    · cases hf : timesOf t.slots o.time with
      | none => rfl
      | some y => rw [hf] at he; simp at he
  have HNT := Lib.hid hnt
  clear hnt
  rw [he] at CM
  clear he
  obtain ⟨R, cap', hv', hR, hle, hRB, hRM, hcc, hfr⟩ := HT.out.cells hs
  obtain ⟨rfl, _, rfl⟩ : A = some ⟨R, 0, none⟩ ∧ True ∧ cap = cap' := by
    have := HV.out.symm.trans hv'
    injection this with e1 e2 e3
    exact ⟨e1, trivial, e3⟩
  have HC : Hid (∀ j u, (encSlot s)[j]? = some u → w.cell? ⟨R, i * 6 + j, none⟩ = some u) := Lib.hid hcc
  have hlt := (List.getElem?_eq_some_iff.1 hs).1
  have HS := Lib.hid hs
  clear hv' hcc hfr hle hs
  clear h ho
  unfold aggListed
  go_enter Try.func13, Try.ntmps13
  go_wp2_with fail
  refine gw (fun wa hwa => ?_)
  have HB1 : Hid (Below w.heap.size w wa) := Lib.hid (by rw [← hwa]; exact ((Below.refl _ _).alloc (Nat.le_refl _) _).alloc (by simp) _)
  have HX1 : Hid (Blk wa w.heap.size #[.int .i64 (i : Int), .int .i64 g, .int .i64 o.time, .bool true, .int .i64 o.key, .int .i64 o.id] 34) := Lib.hid (by rw [← hwa]; exact (Blk.new _ _ _).alloc _)
  have HY1 : Hid (Blk wa (w.heap.size + 1) #[.int .i64 (i : Int), .int .i64 g] 28) := Lib.hid (by rw [← hwa]; exact Blk.at_ (by simp) _ _)
  clear hwa
  refine (CM.out _ HB1.out).mono ?_
  rintro e w2 ⟨rfl, n, rfl⟩
  have HX2 : Hid (Blk (wa.drewN n) w.heap.size #[.int .i64 (i : Int), .int .i64 g, .int .i64 o.time, .bool true, .int .i64 o.key, .int .i64 o.id] 34) := Lib.hid (HX1.out.drewN n)
  have HY2 : Hid (Blk (wa.drewN n) (w.heap.size + 1) #[.int .i64 (i : Int), .int .i64 g] 28) := Lib.hid (HY1.out.drewN n)
  have HB2 : Hid (Below w.heap.size w (wa.drewN n)) := Lib.hid (bdn HB1.out n)
  generalize wa.drewN n = w2 at *
  clear HB1 HX1 HY1 CM
  have y0 := HY2.out.cell (j := 0) rfl
  have y1 := HY2.out.cell (j := 1) rfl
  have c2 : w2.cell? ⟨B, 2, none⟩ = some (.slice (some ⟨R, 0, none⟩) t.slots.length cap) := by rw [← HV.out]; exact bcell HB2.out HT.out.c2 hBl
  have x5 := HX2.out.cell (j := 5) rfl
  have CK : Hid (∀ n, Calls Try.prog 33 #[.pointer (some ⟨B, 0, none⟩), .int .i64 o.id] (w2.drewN n) fun e w' => e = .returned (.bool (true)) ∧ Below (w2.drewN n).heap.size (w2.drewN n) w') := Lib.hid (fun n => by have := known (HT.out.fresh (bdn HB2.out n)) o.id; rw [hk] at this; exact this)
  have k1 : w2.cell? ⟨R, i * 6 + 1, none⟩ = some (.int .i64 s.gen) := bcell HB2.out (HC.out 1 _ rfl) hR
  have k0 : w2.cell? ⟨R, i * 6, none⟩ = some (.int .i64 s.last) := bcell HB2.out (HC.out 0 _ rfl) hR
  generalize hNN : t.slots.length = N at *
  have HNN := Lib.hid hNN
  clear hNN
  have t1 : decide ((i : Int) < 0) = false := decide_eq_false (by omega)
  have t2 : decide (N ≤ i) = false := decide_eq_false (by omega)
  have hi0 : (0 : Int) ≤ i := by omega
  have hiN : (i : Int) < N := by omega
  have e1 : (i : Int).toNat = i := by omega
  have t3 : decide (0 < s.gen) = false := decide_eq_false (by omega)
  have t4 : decide (g < 1) = false := decide_eq_false (by omega)
  have t5 : decide (s.last < g) = false := decide_eq_false (by omega)
  go_wp2_with fail
  go_quiet (fail)
  go_wp2_with fail
  refine (CK.out _).mono ?_
  rintro e w3 ⟨rfl, hb⟩
  have HB3 : Hid (Below w.heap.size w w3) := Lib.hid (btrans (bdn HB2.out _) hb)
  have HX3 : Hid (Blk w3 w.heap.size #[.int .i64 (i : Int), .int .i64 g, .int .i64 o.time, .bool true, .int .i64 o.key, .int .i64 o.id] 34) := Lib.hid ((HX2.out.drewN _).below hb)
  have HY3 : Hid (Blk w3 (w.heap.size + 1) #[.int .i64 (i : Int), .int .i64 g] 28) := Lib.hid ((HY2.out.drewN _).below hb)
  clear hb CK y0 y1 c2 x5 k0 k1
  have x0 := HX3.out.cell (j := 0) rfl
  have x1 := HX3.out.cell (j := 1) rfl
  have x2 := HX3.out.cell (j := 2) rfl
  have x3 := HX3.out.cell (j := 3) rfl
  have x4 := HX3.out.cell (j := 4) rfl
  have x5 := HX3.out.cell (j := 5) rfl
  have y0 := HY3.out.cell (j := 0) rfl
  have y1 := HY3.out.cell (j := 1) rfl
  clear HX2 HY2 HX3 HY3
  have hlay := lay (g := g) (o := o) (HT.out.fresh HB3.out) HS.out (by omega) (by omega) (by have := (HT.out.good.slots s (List.mem_of_getElem? HS.out)).last1; omega) HO.out HNT.out
  rw [show (if g ≤ s.last then s.last else g) = s.last from if_pos (by omega)] at hlay
  unfold aggOp at hlay
  rw [hins] at hlay
  have HLay := Lib.hid hlay
  clear hlay
  go_wp2_with fail
  refine HLay.out.mono ?_
  rintro e w4 ⟨rfl, ht4, hc4⟩
  have HT4 := Lib.hid ht4
  have HC4 := Lib.hid hc4
  clear ht4 hc4 HLay x0 x1 x2 x3 x4 x5 y0 y1
  go_wp2_with fail
  go_ret
  refine ⟨rfl, HT4.out, (Chg.of_below HB3.out).trans HC4.out (fun _ _ h => h)⟩

set_option maxRecDepth 100000 in
set_option maxHeartbeats 1000000 in
theorem revive_ok2 (h : TabV w B M v t) {g : Int} {o : TOp} {i : Nat} {s : Slot} (ho : In64 o.time ∧ In64 o.key ∧ In64 o.id) (he : mayE t o.time = 0) (hs : t.slots[i]? = some s) (h3 : ¬ 0 < s.gen) (h4 : ¬ g < 1) (h5 : ¬ s.last < g) (hk : knownOf t o.id = true) (hins : o.ins = false) (hkey : o.key = 0) :
    Calls Try.prog 13 #[.pointer (some ⟨B, 0, none⟩), aggListed (i : Int) g o] w fun e w' => e = .returned (.int .i64 0) ∧ TabV w' B M v { t with slots := t.slots.set i ⟨s.last, g, o⟩ } ∧ Chg (fun k => k = M ∨ v.ownBlock = some k) w w' := by
  have CM : Hid (∀ w1, Below w.heap.size w w1 → Calls Try.prog 29 #[.pointer (some ⟨B, 0, none⟩), .int .i64 o.time] w1 fun e w' => e = .returned (.int .i64 (mayE t o.time)) ∧ ∃ n, w' = w1.drewN n) := Lib.hid (fun w1 hb => may (h.fresh hb) ho.1)
  have hu34 := Try.underlying34
  have hu32 := Try.underlying32
  have hu30 := Try.underlying30
  have hu28 := Try.underlying28
  have HT := Lib.hid h
  have HO := Lib.hid ho
  have hBl := h.head.lt
  have hMl := h.map.lt
  have hfew := h.good.few
  obtain ⟨A, cap, hv⟩ := h.slice
  have HV := Lib.hid hv
  clear hv
  have hnt : timesOf t.slots o.time = none := by
    unfold mayE at he
    split at he
    · cases he
    · cases hf : timesOf t.slots o.time with
      | none => rfl
      | some y => rw [hf] at he; simp at he
  have HNT := Lib.hid hnt
  clear hnt
  rw [he] at CM
  clear he
  have q1 : (o.key == 0) = true := beq_iff_eq.2 hkey
  have q2 : (o.key != 0) = false := by rw [bne, q1]; rfl
  clear hkey
  obtain ⟨R, cap', hv', hR, hle, hRB, hRM, hcc, hfr⟩ := HT.out.cells hs
  obtain ⟨rfl, _, rfl⟩ : A = some ⟨R, 0, none⟩ ∧ True ∧ cap = cap' := by
    have := HV.out.symm.trans hv'
    injection this with e1 e2 e3
    exact ⟨e1, trivial, e3⟩
  have HC : Hid (∀ j u, (encSlot s)[j]? = some u → w.cell? ⟨R, i * 6 + j, none⟩ = some u) := Lib.hid hcc
  have hlt := (List.getElem?_eq_some_iff.1 hs).1
  have HS := Lib.hid hs
  clear hv' hcc hfr hle hs
  clear h ho
  unfold aggListed
  go_enter Try.func13, Try.ntmps13
  go_wp2_with fail
  refine gw (fun wa hwa => ?_)
  have HB1 : Hid (Below w.heap.size w wa) := Lib.hid (by rw [← hwa]; exact ((Below.refl _ _).alloc (Nat.le_refl _) _).alloc (by simp) _)
  have HX1 : Hid (Blk wa w.heap.size #[.int .i64 (i : Int), .int .i64 g, .int .i64 o.time, .bool false, .int .i64 o.key, .int .i64 o.id] 34) := Lib.hid (by rw [← hwa]; exact (Blk.new _ _ _).alloc _)
  have HY1 : Hid (Blk wa (w.heap.size + 1) #[.int .i64 (i : Int), .int .i64 g] 28) := Lib.hid (by rw [← hwa]; exact Blk.at_ (by simp) _ _)
  clear hwa
  refine (CM.out _ HB1.out).mono ?_
  rintro e w2 ⟨rfl, n, rfl⟩
  have HX2 : Hid (Blk (wa.drewN n) w.heap.size #[.int .i64 (i : Int), .int .i64 g, .int .i64 o.time, .bool false, .int .i64 o.key, .int .i64 o.id] 34) := Lib.hid (HX1.out.drewN n)
  have HY2 : Hid (Blk (wa.drewN n) (w.heap.size + 1) #[.int .i64 (i : Int), .int .i64 g] 28) := Lib.hid (HY1.out.drewN n)
  have HB2 : Hid (Below w.heap.size w (wa.drewN n)) := Lib.hid (bdn HB1.out n)
  generalize wa.drewN n = w2 at *
  clear HB1 HX1 HY1 CM
  have y0 := HY2.out.cell (j := 0) rfl
  have y1 := HY2.out.cell (j := 1) rfl
  have c2 : w2.cell? ⟨B, 2, none⟩ = some (.slice (some ⟨R, 0, none⟩) t.slots.length cap) := by rw [← HV.out]; exact bcell HB2.out HT.out.c2 hBl
  have x5 := HX2.out.cell (j := 5) rfl
  have CK : Hid (∀ n, Calls Try.prog 33 #[.pointer (some ⟨B, 0, none⟩), .int .i64 o.id] (w2.drewN n) fun e w' => e = .returned (.bool (true)) ∧ Below (w2.drewN n).heap.size (w2.drewN n) w') := Lib.hid (fun n => by have := known (HT.out.fresh (bdn HB2.out n)) o.id; rw [hk] at this; exact this)
  have k1 : w2.cell? ⟨R, i * 6 + 1, none⟩ = some (.int .i64 s.gen) := bcell HB2.out (HC.out 1 _ rfl) hR
  have k0 : w2.cell? ⟨R, i * 6, none⟩ = some (.int .i64 s.last) := bcell HB2.out (HC.out 0 _ rfl) hR
  generalize hNN : t.slots.length = N at *
  have HNN := Lib.hid hNN
  clear hNN
  have t1 : decide ((i : Int) < 0) = false := decide_eq_false (by omega)
  have t2 : decide (N ≤ i) = false := decide_eq_false (by omega)
  have hi0 : (0 : Int) ≤ i := by omega
  have hiN : (i : Int) < N := by omega
  have e1 : (i : Int).toNat = i := by omega
  have t3 : decide (0 < s.gen) = false := decide_eq_false (by omega)
  have t4 : decide (g < 1) = false := decide_eq_false (by omega)
  have t5 : decide (s.last < g) = false := decide_eq_false (by omega)
  go_wp2_with fail
  go_quiet (fail)
  go_wp2_with fail
  refine (CK.out _).mono ?_
  rintro e w3 ⟨rfl, hb⟩
  have HB3 : Hid (Below w.heap.size w w3) := Lib.hid (btrans (bdn HB2.out _) hb)
  have HX3 : Hid (Blk w3 w.heap.size #[.int .i64 (i : Int), .int .i64 g, .int .i64 o.time, .bool false, .int .i64 o.key, .int .i64 o.id] 34) := Lib.hid ((HX2.out.drewN _).below hb)
  have HY3 : Hid (Blk w3 (w.heap.size + 1) #[.int .i64 (i : Int), .int .i64 g] 28) := Lib.hid ((HY2.out.drewN _).below hb)
  clear hb CK y0 y1 c2 x5 k0 k1
  have x0 := HX3.out.cell (j := 0) rfl
  have x1 := HX3.out.cell (j := 1) rfl
  have x2 := HX3.out.cell (j := 2) rfl
  have x3 := HX3.out.cell (j := 3) rfl
  have x4 := HX3.out.cell (j := 4) rfl
  have x5 := HX3.out.cell (j := 5) rfl
  have y0 := HY3.out.cell (j := 0) rfl
  have y1 := HY3.out.cell (j := 1) rfl
  clear HX2 HY2 HX3 HY3
  have hlay := lay (g := g) (o := o) (HT.out.fresh HB3.out) HS.out (by omega) (by omega) (by have := (HT.out.good.slots s (List.mem_of_getElem? HS.out)).last1; omega) HO.out HNT.out
  rw [show (if g ≤ s.last then s.last else g) = s.last from if_pos (by omega)] at hlay
  unfold aggOp at hlay
  rw [hins] at hlay
  have HLay := Lib.hid hlay
  clear hlay
  go_wp2_with fail
  refine HLay.out.mono ?_
  rintro e w4 ⟨rfl, ht4, hc4⟩
  have HT4 := Lib.hid ht4
  have HC4 := Lib.hid hc4
  clear ht4 hc4 HLay x0 x1 x2 x3 x4 x5 y0 y1
  go_wp2_with fail
  go_ret
  refine ⟨rfl, HT4.out, (Chg.of_below HB3.out).trans HC4.out (fun _ _ h => h)⟩

end
end Go.Proofs.Ytccfjjaljckinaa.Tag
