/- Tables and their document, part Mc of this seat's texts: plain facts and walks. No conditions. -/
import Derived.Test.YtccfjjaljckinaaRMb
import Derived.Test.YtccfjjaljckinaaRPTagOncex1
import Derived.LoopTactic
/- Moving an operation. -/
namespace Go.Proofs.Ytccfjjaljckinaa.Tag
open Go.RowKit Go.Lib Go.Shelf Go.Proofs.Ytccfjjaljckinaa.Mem Go.Proofs.Ytccfjjaljckinaa.IMap Go.Proofs.YtccfjjaljckinaaW.PrintWords

section
variable {w : World} {B M : Nat} {v : Value} {t : Tab}
def moveSlot (s : Slot) (tm : Int) : Slot := { s with op := { s.op with time := tm } }
end
end Go.Proofs.Ytccfjjaljckinaa.Tag
/- Reviving an operation. -/
namespace Go.Proofs.Ytccfjjaljckinaa.Tag
open Go.RowKit Go.Lib Go.Shelf Go.Proofs.Ytccfjjaljckinaa.Mem Go.Proofs.Ytccfjjaljckinaa.IMap Go.Proofs.YtccfjjaljckinaaW.PrintWords

section
variable {w : World} {B M : Nat} {v : Value} {t : Tab}
theorem TabV.slice (h : TabV w B M v t) : ∃ A cap, v = .slice A t.slots.length cap := by
  rcases h.row.2 with ⟨rfl, h0⟩ | ⟨R, cap, cur, rfl, _⟩
  · exact ⟨none, 0, by rw [h0]⟩
  · exact ⟨_, _, rfl⟩
set_option maxRecDepth 100000 in
set_option maxHeartbeats 1000000 in
theorem revive_may (h : TabV w B M v t) {ri g : Int} {o : TOp} (ho : In64 o.time ∧ In64 o.key ∧ In64 o.id) (he : mayE t o.time ≠ 0) :
    Calls Try.prog 13 #[.pointer (some ⟨B, 0, none⟩), aggListed ri g o] w fun e w' => e = .returned (.int .i64 (mayE t o.time)) ∧ Below w.heap.size w w' := by
  have CM : Hid (∀ w1, Below w.heap.size w w1 → Calls Try.prog 29 #[.pointer (some ⟨B, 0, none⟩), .int .i64 o.time] w1 fun e w' => e = .returned (.int .i64 (mayE t o.time)) ∧ ∃ n, w' = w1.drewN n) := Lib.hid (fun w1 hb => may (h.fresh hb) ho.1)
  have hu34 := Try.underlying34
  have hu32 := Try.underlying32
  have hu30 := Try.underlying30
  have hu28 := Try.underlying28
  have HT := Lib.hid h
  have HO := Lib.hid ho
  have hBl := h.head.lt
  have hMl := h.map.lt
  have hfew := h.good.few
  obtain ⟨A, cap, hv⟩ := h.slice
  have HV := Lib.hid hv
  clear hv
  generalize hE : mayE t o.time = E at *
  have HE := Lib.hid hE
  clear hE
  have t1 : (E == 0) = false := beq_eq_false_iff_ne.2 he
  have t2 : (E != 0) = true := by rw [bne, t1]; rfl
  clear he
  clear h ho
  unfold aggListed
  go_enter Try.func13, Try.ntmps13
  go_wp2_with fail
  refine gw (fun wa hwa => ?_)
  have HB1 : Hid (Below w.heap.size w wa) := Lib.hid (by rw [← hwa]; exact ((Below.refl _ _).alloc (Nat.le_refl _) _).alloc (by simp) _)
  have HX1 : Hid (Blk wa w.heap.size #[.int .i64 ri, .int .i64 g, .int .i64 o.time, .bool o.ins, .int .i64 o.key, .int .i64 o.id] 34) := Lib.hid (by rw [← hwa]; exact (Blk.new _ _ _).alloc _)
  have HY1 : Hid (Blk wa (w.heap.size + 1) #[.int .i64 ri, .int .i64 g] 28) := Lib.hid (by rw [← hwa]; exact Blk.at_ (by simp) _ _)
  clear hwa
  refine (CM.out _ HB1.out).mono ?_
  rintro e w2 ⟨rfl, n, rfl⟩
  have HX2 : Hid (Blk (wa.drewN n) w.heap.size #[.int .i64 ri, .int .i64 g, .int .i64 o.time, .bool o.ins, .int .i64 o.key, .int .i64 o.id] 34) := Lib.hid (HX1.out.drewN n)
  have HY2 : Hid (Blk (wa.drewN n) (w.heap.size + 1) #[.int .i64 ri, .int .i64 g] 28) := Lib.hid (HY1.out.drewN n)
  have HB2 : Hid (Below w.heap.size w (wa.drewN n)) := Lib.hid (bdn HB1.out n)
  generalize wa.drewN n = w2 at *
  clear HB1 HX1 HY1 CM
  go_wp2_with fail
  go_ret
  exact ⟨rfl, HB2.out⟩

set_option maxRecDepth 100000 in
set_option maxHeartbeats 1000000 in
theorem revive_b1 (h : TabV w B M v t) {ri g : Int} {o : TOp} (ho : In64 o.time ∧ In64 o.key ∧ In64 o.id) (he : mayE t o.time = 0) (h1 : ri < 0) :
    Calls Try.prog 13 #[.pointer (some ⟨B, 0, none⟩), aggListed ri g o] w fun e w' => e = .returned (.int .i64 13) ∧ Below w.heap.size w w' := by
  have CM : Hid (∀ w1, Below w.heap.size w w1 → Calls Try.prog 29 #[.pointer (some ⟨B, 0, none⟩), .int .i64 o.time] w1 fun e w' => e = .returned (.int .i64 (mayE t o.time)) ∧ ∃ n, w' = w1.drewN n) := Lib.hid (fun w1 hb => may (h.fresh hb) ho.1)
  have hu34 := Try.underlying34
  have hu32 := Try.underlying32
  have hu30 := Try.underlying30
  have hu28 := Try.underlying28
  have HT := Lib.hid h
  have HO := Lib.hid ho
  have hBl := h.head.lt
  have hMl := h.map.lt
  have hfew := h.good.few
  obtain ⟨A, cap, hv⟩ := h.slice
  have HV := Lib.hid hv
  clear hv
  rw [he] at CM
  clear he
  clear h ho
  unfold aggListed
  go_enter Try.func13, Try.ntmps13
  go_wp2_with fail
  refine gw (fun wa hwa => ?_)
  have HB1 : Hid (Below w.heap.size w wa) := Lib.hid (by rw [← hwa]; exact ((Below.refl _ _).alloc (Nat.le_refl _) _).alloc (by simp) _)
  have HX1 : Hid (Blk wa w.heap.size #[.int .i64 ri, .int .i64 g, .int .i64 o.time, .bool o.ins, .int .i64 o.key, .int .i64 o.id] 34) := Lib.hid (by rw [← hwa]; exact (Blk.new _ _ _).alloc _)
  have HY1 : Hid (Blk wa (w.heap.size + 1) #[.int .i64 ri, .int .i64 g] 28) := Lib.hid (by rw [← hwa]; exact Blk.at_ (by simp) _ _)
  clear hwa
  refine (CM.out _ HB1.out).mono ?_
  rintro e w2 ⟨rfl, n, rfl⟩
  have HX2 : Hid (Blk (wa.drewN n) w.heap.size #[.int .i64 ri, .int .i64 g, .int .i64 o.time, .bool o.ins, .int .i64 o.key, .int .i64 o.id] 34) := Lib.hid (HX1.out.drewN n)
  have HY2 : Hid (Blk (wa.drewN n) (w.heap.size + 1) #[.int .i64 ri, .int .i64 g] 28) := Lib.hid (HY1.out.drewN n)
  have HB2 : Hid (Below w.heap.size w (wa.drewN n)) := Lib.hid (bdn HB1.out n)
  generalize wa.drewN n = w2 at *
  clear HB1 HX1 HY1 CM
  have y0 := HY2.out.cell (j := 0) rfl
  have y1 := HY2.out.cell (j := 1) rfl
  have c2 : w2.cell? ⟨B, 2, none⟩ = some (.slice A t.slots.length cap) := by rw [← HV.out]; exact bcell HB2.out HT.out.c2 hBl
  clear HX2 HY2
  have t1 : decide (ri < 0) = true := decide_eq_true h1
  clear h1
  go_wp2_with fail
  go_quiet (fail)
  go_wp2_with fail
  go_ret
  exact ⟨rfl, by (repeat (refine bdn ?_ _)); exact HB2.out⟩

set_option maxRecDepth 100000 in
set_option maxHeartbeats 1000000 in
theorem revive_b2 (h : TabV w B M v t) {ri g : Int} {o : TOp} (ho : In64 o.time ∧ In64 o.key ∧ In64 o.id) (he : mayE t o.time = 0) (h1 : ¬ ri < 0) (h2 : (t.slots.length : Int) ≤ ri) :
    Calls Try.prog 13 #[.pointer (some ⟨B, 0, none⟩), aggListed ri g o] w fun e w' => e = .returned (.int .i64 13) ∧ Below w.heap.size w w' := by
  have CM : Hid (∀ w1, Below w.heap.size w w1 → Calls Try.prog 29 #[.pointer (some ⟨B, 0, none⟩), .int .i64 o.time] w1 fun e w' => e = .returned (.int .i64 (mayE t o.time)) ∧ ∃ n, w' = w1.drewN n) := Lib.hid (fun w1 hb => may (h.fresh hb) ho.1)
  have hu34 := Try.underlying34
  have hu32 := Try.underlying32
  have hu30 := Try.underlying30
  have hu28 := Try.underlying28
  have HT := Lib.hid h
  have HO := Lib.hid ho
  have hBl := h.head.lt
  have hMl := h.map.lt
  have hfew := h.good.few
  obtain ⟨A, cap, hv⟩ := h.slice
  have HV := Lib.hid hv
  clear hv
  rw [he] at CM
  clear he
  clear h ho
  unfold aggListed
  go_enter Try.func13, Try.ntmps13
  go_wp2_with fail
  refine gw (fun wa hwa => ?_)
  have HB1 : Hid (Below w.heap.size w wa) := Lib.hid (by rw [← hwa]; exact ((Below.refl _ _).alloc (Nat.le_refl _) _).alloc (by simp) _)
  have HX1 : Hid (Blk wa w.heap.size #[.int .i64 ri, .int .i64 g, .int .i64 o.time, .bool o.ins, .int .i64 o.key, .int .i64 o.id] 34) := Lib.hid (by rw [← hwa]; exact (Blk.new _ _ _).alloc _)
  have HY1 : Hid (Blk wa (w.heap.size + 1) #[.int .i64 ri, .int .i64 g] 28) := Lib.hid (by rw [← hwa]; exact Blk.at_ (by simp) _ _)
  clear hwa
  refine (CM.out _ HB1.out).mono ?_
  rintro e w2 ⟨rfl, n, rfl⟩
  have HX2 : Hid (Blk (wa.drewN n) w.heap.size #[.int .i64 ri, .int .i64 g, .int .i64 o.time, .bool o.ins, .int .i64 o.key, .int .i64 o.id] 34) := Lib.hid (HX1.out.drewN n)
  have HY2 : Hid (Blk (wa.drewN n) (w.heap.size + 1) #[.int .i64 ri, .int .i64 g] 28) := Lib.hid (HY1.out.drewN n)
  have HB2 : Hid (Below w.heap.size w (wa.drewN n)) := Lib.hid (bdn HB1.out n)
  generalize wa.drewN n = w2 at *
  clear HB1 HX1 HY1 CM
  have y0 := HY2.out.cell (j := 0) rfl
  have y1 := HY2.out.cell (j := 1) rfl
  have c2 : w2.cell? ⟨B, 2, none⟩ = some (.slice A t.slots.length cap) := by rw [← HV.out]; exact bcell HB2.out HT.out.c2 hBl
  clear HX2 HY2
  have t1 : decide (ri < 0) = false := decide_eq_false (by omega)
  have t2 : decide ((t.slots.length : Int) ≤ ri) = true := decide_eq_true h2
  clear h1
  go_wp2_with fail
  go_quiet (fail)
  go_wp2_with fail
  go_ret
  exact ⟨rfl, by (repeat (refine bdn ?_ _)); exact HB2.out⟩

set_option maxRecDepth 100000 in
set_option maxHeartbeats 1000000 in
theorem revive_b3 (h : TabV w B M v t) {g : Int} {o : TOp} {i : Nat} {s : Slot} (ho : In64 o.time ∧ In64 o.key ∧ In64 o.id) (he : mayE t o.time = 0) (hs : t.slots[i]? = some s) (h3 : 0 < s.gen) :
    Calls Try.prog 13 #[.pointer (some ⟨B, 0, none⟩), aggListed (i : Int) g o] w fun e w' => e = .returned (.int .i64 13) ∧ Below w.heap.size w w' := by
  have CM : Hid (∀ w1, Below w.heap.size w w1 → Calls Try.prog 29 #[.pointer (some ⟨B, 0, none⟩), .int .i64 o.time] w1 fun e w' => e = .returned (.int .i64 (mayE t o.time)) ∧ ∃ n, w' = w1.drewN n) := Lib.hid (fun w1 hb => may (h.fresh hb) ho.1)
  have hu34 := Try.underlying34
  have hu32 := Try.underlying32
  have hu30 := Try.underlying30
  have hu28 := Try.underlying28
  have HT := Lib.hid h
  have HO := Lib.hid ho
  have hBl := h.head.lt
  have hMl := h.map.lt
  have hfew := h.good.few
  obtain ⟨A, cap, hv⟩ := h.slice
  have HV := Lib.hid hv
  clear hv
  rw [he] at CM
  clear he
  obtain ⟨R, cap', hv', hR, hle, hRB, hRM, hcc, hfr⟩ := HT.out.cells hs
  obtain ⟨rfl, _, rfl⟩ : A = some ⟨R, 0, none⟩ ∧ True ∧ cap = cap' := by
    have := HV.out.symm.trans hv'
    injection this with e1 e2 e3
    exact ⟨e1, trivial, e3⟩
  have HC : Hid (∀ j u, (encSlot s)[j]? = some u → w.cell? ⟨R, i * 6 + j, none⟩ = some u) := Lib.hid hcc
  have hlt := (List.getElem?_eq_some_iff.1 hs).1
  have HS := Lib.hid hs
  clear hv' hcc hfr hle hs
  clear h ho
  unfold aggListed
  go_enter Try.func13, Try.ntmps13
  go_wp2_with fail
  refine gw (fun wa hwa => ?_)
  have HB1 : Hid (Below w.heap.size w wa) := Lib.hid (by rw [← hwa]; exact ((Below.refl _ _).alloc (Nat.le_refl _) _).alloc (by simp) _)
  have HX1 : Hid (Blk wa w.heap.size #[.int .i64 (i : Int), .int .i64 g, .int .i64 o.time, .bool o.ins, .int .i64 o.key, .int .i64 o.id] 34) := Lib.hid (by rw [← hwa]; exact (Blk.new _ _ _).alloc _)
  have HY1 : Hid (Blk wa (w.heap.size + 1) #[.int .i64 (i : Int), .int .i64 g] 28) := Lib.hid (by rw [← hwa]; exact Blk.at_ (by simp) _ _)
  clear hwa
  refine (CM.out _ HB1.out).mono ?_
  rintro e w2 ⟨rfl, n, rfl⟩
  have HX2 : Hid (Blk (wa.drewN n) w.heap.size #[.int .i64 (i : Int), .int .i64 g, .int .i64 o.time, .bool o.ins, .int .i64 o.key, .int .i64 o.id] 34) := Lib.hid (HX1.out.drewN n)
  have HY2 : Hid (Blk (wa.drewN n) (w.heap.size + 1) #[.int .i64 (i : Int), .int .i64 g] 28) := Lib.hid (HY1.out.drewN n)
  have HB2 : Hid (Below w.heap.size w (wa.drewN n)) := Lib.hid (bdn HB1.out n)
  generalize wa.drewN n = w2 at *
  clear HB1 HX1 HY1 CM
  have y0 := HY2.out.cell (j := 0) rfl
  have y1 := HY2.out.cell (j := 1) rfl
  have c2 : w2.cell? ⟨B, 2, none⟩ = some (.slice (some ⟨R, 0, none⟩) t.slots.length cap) := by rw [← HV.out]; exact bcell HB2.out HT.out.c2 hBl
  clear HX2 HY2
  have k1 : w2.cell? ⟨R, i * 6 + 1, none⟩ = some (.int .i64 s.gen) := bcell HB2.out (HC.out 1 _ rfl) hR
  have k0 : w2.cell? ⟨R, i * 6, none⟩ = some (.int .i64 s.last) := bcell HB2.out (HC.out 0 _ rfl) hR
  generalize hNN : t.slots.length = N at *
  have HNN := Lib.hid hNN
  clear hNN
  have t1 : decide ((i : Int) < 0) = false := decide_eq_false (by omega)
  have t2 : decide (N ≤ i) = false := decide_eq_false (by omega)
  have hi0 : (0 : Int) ≤ i := by omega
  have hiN : (i : Int) < N := by omega
  have e1 : (i : Int).toNat = i := by omega
  have t3 : decide (0 < s.gen) = true := decide_eq_true h3
  go_wp2_with fail
  go_quiet (fail)
  go_wp2_with fail
  go_ret
  exact ⟨rfl, by (repeat (refine bdn ?_ _)); exact HB2.out⟩

set_option maxRecDepth 100000 in
set_option maxHeartbeats 1000000 in
theorem revive_b4 (h : TabV w B M v t) {g : Int} {o : TOp} {i : Nat} {s : Slot} (ho : In64 o.time ∧ In64 o.key ∧ In64 o.id) (he : mayE t o.time = 0) (hs : t.slots[i]? = some s) (h3 : ¬ 0 < s.gen) (h4 : g < 1) :
    Calls Try.prog 13 #[.pointer (some ⟨B, 0, none⟩), aggListed (i : Int) g o] w fun e w' => e = .returned (.int .i64 13) ∧ Below w.heap.size w w' := by
  have CM : Hid (∀ w1, Below w.heap.size w w1 → Calls Try.prog 29 #[.pointer (some ⟨B, 0, none⟩), .int .i64 o.time] w1 fun e w' => e = .returned (.int .i64 (mayE t o.time)) ∧ ∃ n, w' = w1.drewN n) := Lib.hid (fun w1 hb => may (h.fresh hb) ho.1)
  have hu34 := Try.underlying34
  have hu32 := Try.underlying32
  have hu30 := Try.underlying30
  have hu28 := Try.underlying28
  have HT := Lib.hid h
  have HO := Lib.hid ho
  have hBl := h.head.lt
  have hMl := h.map.lt
  have hfew := h.good.few
  obtain ⟨A, cap, hv⟩ := h.slice
  have HV := Lib.hid hv
  clear hv
  rw [he] at CM
  clear he
  obtain ⟨R, cap', hv', hR, hle, hRB, hRM, hcc, hfr⟩ := HT.out.cells hs
  obtain ⟨rfl, _, rfl⟩ : A = some ⟨R, 0, none⟩ ∧ True ∧ cap = cap' := by
    have := HV.out.symm.trans hv'
    injection this with e1 e2 e3
    exact ⟨e1, trivial, e3⟩
  have HC : Hid (∀ j u, (encSlot s)[j]? = some u → w.cell? ⟨R, i * 6 + j, none⟩ = some u) := Lib.hid hcc
  have hlt := (List.getElem?_eq_some_iff.1 hs).1
  have HS := Lib.hid hs
  clear hv' hcc hfr hle hs
  clear h ho
  unfold aggListed
  go_enter Try.func13, Try.ntmps13
  go_wp2_with fail
  refine gw (fun wa hwa => ?_)
  have HB1 : Hid (Below w.heap.size w wa) := Lib.hid (by rw [← hwa]; exact ((Below.refl _ _).alloc (Nat.le_refl _) _).alloc (by simp) _)
  have HX1 : Hid (Blk wa w.heap.size #[.int .i64 (i : Int), .int .i64 g, .int .i64 o.time, .bool o.ins, .int .i64 o.key, .int .i64 o.id] 34) := Lib.hid (by rw [← hwa]; exact (Blk.new _ _ _).alloc _)
  have HY1 : Hid (Blk wa (w.heap.size + 1) #[.int .i64 (i : Int), .int .i64 g] 28) := Lib.hid (by rw [← hwa]; exact Blk.at_ (by simp) _ _)
  clear hwa
  refine (CM.out _ HB1.out).mono ?_
  rintro e w2 ⟨rfl, n, rfl⟩
  have HX2 : Hid (Blk (wa.drewN n) w.heap.size #[.int .i64 (i : Int), .int .i64 g, .int .i64 o.time, .bool o.ins, .int .i64 o.key, .int .i64 o.id] 34) := Lib.hid (HX1.out.drewN n)
  have HY2 : Hid (Blk (wa.drewN n) (w.heap.size + 1) #[.int .i64 (i : Int), .int .i64 g] 28) := Lib.hid (HY1.out.drewN n)
  have HB2 : Hid (Below w.heap.size w (wa.drewN n)) := Lib.hid (bdn HB1.out n)
  generalize wa.drewN n = w2 at *
  clear HB1 HX1 HY1 CM
  have y0 := HY2.out.cell (j := 0) rfl
  have y1 := HY2.out.cell (j := 1) rfl
  have c2 : w2.cell? ⟨B, 2, none⟩ = some (.slice (some ⟨R, 0, none⟩) t.slots.length cap) := by rw [← HV.out]; exact bcell HB2.out HT.out.c2 hBl
  clear HX2 HY2
  have k1 : w2.cell? ⟨R, i * 6 + 1, none⟩ = some (.int .i64 s.gen) := bcell HB2.out (HC.out 1 _ rfl) hR
  have k0 : w2.cell? ⟨R, i * 6, none⟩ = some (.int .i64 s.last) := bcell HB2.out (HC.out 0 _ rfl) hR
  generalize hNN : t.slots.length = N at *
  have HNN := Lib.hid hNN
  clear hNN
  have t1 : decide ((i : Int) < 0) = false := decide_eq_false (by omega)
  have t2 : decide (N ≤ i) = false := decide_eq_false (by omega)
  have hi0 : (0 : Int) ≤ i := by omega
  have hiN : (i : Int) < N := by omega
  have e1 : (i : Int).toNat = i := by omega
  have t3 : decide (0 < s.gen) = false := decide_eq_false (by omega)
  have t4 : decide (g < 1) = true := decide_eq_true h4
  go_wp2_with fail
  go_quiet (fail)
  go_wp2_with fail
  go_ret
  exact ⟨rfl, by (repeat (refine bdn ?_ _)); exact HB2.out⟩

set_option maxRecDepth 100000 in
set_option maxHeartbeats 1000000 in
theorem revive_b5 (h : TabV w B M v t) {g : Int} {o : TOp} {i : Nat} {s : Slot} (ho : In64 o.time ∧ In64 o.key ∧ In64 o.id) (he : mayE t o.time = 0) (hs : t.slots[i]? = some s) (h3 : ¬ 0 < s.gen) (h4 : ¬ g < 1) (h5 : s.last < g) :
    Calls Try.prog 13 #[.pointer (some ⟨B, 0, none⟩), aggListed (i : Int) g o] w fun e w' => e = .returned (.int .i64 13) ∧ Below w.heap.size w w' := by
  have CM : Hid (∀ w1, Below w.heap.size w w1 → Calls Try.prog 29 #[.pointer (some ⟨B, 0, none⟩), .int .i64 o.time] w1 fun e w' => e = .returned (.int .i64 (mayE t o.time)) ∧ ∃ n, w' = w1.drewN n) := Lib.hid (fun w1 hb => may (h.fresh hb) ho.1)
  have hu34 := Try.underlying34
  have hu32 := Try.underlying32
  have hu30 := Try.underlying30
  have hu28 := Try.underlying28
  have HT := Lib.hid h
  have HO := Lib.hid ho
  have hBl := h.head.lt
  have hMl := h.map.lt
  have hfew := h.good.few
  obtain ⟨A, cap, hv⟩ := h.slice
  have HV := Lib.hid hv
  clear hv
  rw [he] at CM
  clear he
  obtain ⟨R, cap', hv', hR, hle, hRB, hRM, hcc, hfr⟩ := HT.out.cells hs
  obtain ⟨rfl, _, rfl⟩ : A = some ⟨R, 0, none⟩ ∧ True ∧ cap = cap' := by
    have := HV.out.symm.trans hv'
    injection this with e1 e2 e3
    exact ⟨e1, trivial, e3⟩
  have HC : Hid (∀ j u, (encSlot s)[j]? = some u → w.cell? ⟨R, i * 6 + j, none⟩ = some u) := Lib.hid hcc
  have hlt := (List.getElem?_eq_some_iff.1 hs).1
  have HS := Lib.hid hs
  clear hv' hcc hfr hle hs
  clear h ho
  unfold aggListed
  go_enter Try.func13, Try.ntmps13
  go_wp2_with fail
  refine gw (fun wa hwa => ?_)
  have HB1 : Hid (Below w.heap.size w wa) := Lib.hid (by rw [← hwa]; exact ((Below.refl _ _).alloc (Nat.le_refl _) _).alloc (by simp) _)
  have HX1 : Hid (Blk wa w.heap.size #[.int .i64 (i : Int), .int .i64 g, .int .i64 o.time, .bool o.ins, .int .i64 o.key, .int .i64 o.id] 34) := Lib.hid (by rw [← hwa]; exact (Blk.new _ _ _).alloc _)
  have HY1 : Hid (Blk wa (w.heap.size + 1) #[.int .i64 (i : Int), .int .i64 g] 28) := Lib.hid (by rw [← hwa]; exact Blk.at_ (by simp) _ _)
  clear hwa
  refine (CM.out _ HB1.out).mono ?_
  rintro e w2 ⟨rfl, n, rfl⟩
  have HX2 : Hid (Blk (wa.drewN n) w.heap.size #[.int .i64 (i : Int), .int .i64 g, .int .i64 o.time, .bool o.ins, .int .i64 o.key, .int .i64 o.id] 34) := Lib.hid (HX1.out.drewN n)
  have HY2 : Hid (Blk (wa.drewN n) (w.heap.size + 1) #[.int .i64 (i : Int), .int .i64 g] 28) := Lib.hid (HY1.out.drewN n)
  have HB2 : Hid (Below w.heap.size w (wa.drewN n)) := Lib.hid (bdn HB1.out n)
  generalize wa.drewN n = w2 at *
  clear HB1 HX1 HY1 CM
  have y0 := HY2.out.cell (j := 0) rfl
  have y1 := HY2.out.cell (j := 1) rfl
  have c2 : w2.cell? ⟨B, 2, none⟩ = some (.slice (some ⟨R, 0, none⟩) t.slots.length cap) := by rw [← HV.out]; exact bcell HB2.out HT.out.c2 hBl
  clear HX2 HY2
  have k1 : w2.cell? ⟨R, i * 6 + 1, none⟩ = some (.int .i64 s.gen) := bcell HB2.out (HC.out 1 _ rfl) hR
  have k0 : w2.cell? ⟨R, i * 6, none⟩ = some (.int .i64 s.last) := bcell HB2.out (HC.out 0 _ rfl) hR
  generalize hNN : t.slots.length = N at *
  have HNN := Lib.hid hNN
  clear hNN
  have t1 : decide ((i : Int) < 0) = false := decide_eq_false (by omega)
  have t2 : decide (N ≤ i) = false := decide_eq_false (by omega)
  have hi0 : (0 : Int) ≤ i := by omega
  have hiN : (i : Int) < N := by omega
  have e1 : (i : Int).toNat = i := by omega
  have t3 : decide (0 < s.gen) = false := decide_eq_false (by omega)
  have t4 : decide (g < 1) = false := decide_eq_false (by omega)
  have t5 : decide (s.last < g) = true := decide_eq_true h5
  go_wp2_with fail
  go_quiet (fail)
  go_wp2_with fail
  go_ret
  exact ⟨rfl, by (repeat (refine bdn ?_ _)); exact HB2.out⟩

set_option maxRecDepth 100000 in
set_option maxHeartbeats 1000000 in
theorem revive_c1 (h : TabV w B M v t) {g : Int} {o : TOp} {i : Nat} {s : Slot} (ho : In64 o.time ∧ In64 o.key ∧ In64 o.id) (he : mayE t o.time = 0) (hs : t.slots[i]? = some s) (h3 : ¬ 0 < s.gen) (h4 : ¬ g < 1) (h5 : ¬ s.last < g) (hk : knownOf t o.id = false) :
    Calls Try.prog 13 #[.pointer (some ⟨B, 0, none⟩), aggListed (i : Int) g o] w fun e w' => e = .returned (.int .i64 2) ∧ Below w.heap.size w w' := by
  have CM : Hid (∀ w1, Below w.heap.size w w1 → Calls Try.prog 29 #[.pointer (some ⟨B, 0, none⟩), .int .i64 o.time] w1 fun e w' => e = .returned (.int .i64 (mayE t o.time)) ∧ ∃ n, w' = w1.drewN n) := Lib.hid (fun w1 hb => may (h.fresh hb) ho.1)
  have hu34 := Try.underlying34
  have hu32 := Try.underlying32
  have hu30 := Try.underlying30
  have hu28 := Try.underlying28
  have HT := Lib.hid h
  have HO := Lib.hid ho
  have hBl := h.head.lt
  have hMl := h.map.lt
  have hfew := h.good.few
  obtain ⟨A, cap, hv⟩ := h.slice
  have HV := Lib.hid hv
  clear hv
  rw [he] at CM
  clear he
  obtain ⟨R, cap', hv', hR, hle, hRB, hRM, hcc, hfr⟩ := HT.out.cells hs
  obtain ⟨rfl, _, rfl⟩ : A = some ⟨R, 0, none⟩ ∧ True ∧ cap = cap' := by
    have := HV.out.symm.trans hv'
    injection this with e1 e2 e3
    exact ⟨e1, trivial, e3⟩
  have HC : Hid (∀ j u, (encSlot s)[j]? = some u → w.cell? ⟨R, i * 6 + j, none⟩ = some u) := Lib.hid hcc
  have hlt := (List.getElem?_eq_some_iff.1 hs).1
  have HS := Lib.hid hs
  clear hv' hcc hfr hle hs
  clear h ho
  unfold aggListed
  go_enter Try.func13, Try.ntmps13
  go_wp2_with fail
  refine gw (fun wa hwa => ?_)
  have HB1 : Hid (Below w.heap.size w wa) := Lib.hid (by rw [← hwa]; exact ((Below.refl _ _).alloc (Nat.le_refl _) _).alloc (by simp) _)
  have HX1 : Hid (Blk wa w.heap.size #[.int .i64 (i : Int), .int .i64 g, .int .i64 o.time, .bool o.ins, .int .i64 o.key, .int .i64 o.id] 34) := Lib.hid (by rw [← hwa]; exact (Blk.new _ _ _).alloc _)
  have HY1 : Hid (Blk wa (w.heap.size + 1) #[.int .i64 (i : Int), .int .i64 g] 28) := Lib.hid (by rw [← hwa]; exact Blk.at_ (by simp) _ _)
  clear hwa
  refine (CM.out _ HB1.out).mono ?_
  rintro e w2 ⟨rfl, n, rfl⟩
  have HX2 : Hid (Blk (wa.drewN n) w.heap.size #[.int .i64 (i : Int), .int .i64 g, .int .i64 o.time, .bool o.ins, .int .i64 o.key, .int .i64 o.id] 34) := Lib.hid (HX1.out.drewN n)
  have HY2 : Hid (Blk (wa.drewN n) (w.heap.size + 1) #[.int .i64 (i : Int), .int .i64 g] 28) := Lib.hid (HY1.out.drewN n)
  have HB2 : Hid (Below w.heap.size w (wa.drewN n)) := Lib.hid (bdn HB1.out n)
  generalize wa.drewN n = w2 at *
  clear HB1 HX1 HY1 CM
  have y0 := HY2.out.cell (j := 0) rfl
  have y1 := HY2.out.cell (j := 1) rfl
  have c2 : w2.cell? ⟨B, 2, none⟩ = some (.slice (some ⟨R, 0, none⟩) t.slots.length cap) := by rw [← HV.out]; exact bcell HB2.out HT.out.c2 hBl
  have x5 := HX2.out.cell (j := 5) rfl
  have CK : Hid (∀ n, Calls Try.prog 33 #[.pointer (some ⟨B, 0, none⟩), .int .i64 o.id] (w2.drewN n) fun e w' => e = .returned (.bool (false)) ∧ Below (w2.drewN n).heap.size (w2.drewN n) w') := Lib.hid (fun n => by have := known (HT.out.fresh (bdn HB2.out n)) o.id; rw [hk] at this; exact this)
  have k1 : w2.cell? ⟨R, i * 6 + 1, none⟩ = some (.int .i64 s.gen) := bcell HB2.out (HC.out 1 _ rfl) hR
  have k0 : w2.cell? ⟨R, i * 6, none⟩ = some (.int .i64 s.last) := bcell HB2.out (HC.out 0 _ rfl) hR
  generalize hNN : t.slots.length = N at *
  have HNN := Lib.hid hNN
  clear hNN
  have t1 : decide ((i : Int) < 0) = false := decide_eq_false (by omega)
  have t2 : decide (N ≤ i) = false := decide_eq_false (by omega)
  have hi0 : (0 : Int) ≤ i := by omega
  have hiN : (i : Int) < N := by omega
  have e1 : (i : Int).toNat = i := by omega
  have t3 : decide (0 < s.gen) = false := decide_eq_false (by omega)
  have t4 : decide (g < 1) = false := decide_eq_false (by omega)
  have t5 : decide (s.last < g) = false := decide_eq_false (by omega)
  go_wp2_with fail
  go_quiet (fail)
  go_wp2_with fail
  refine (CK.out _).mono ?_
  rintro e w3 ⟨rfl, hb⟩
  have HB3 : Hid (Below w.heap.size w w3) := Lib.hid (btrans (bdn HB2.out _) hb)
  have HX3 : Hid (Blk w3 w.heap.size #[.int .i64 (i : Int), .int .i64 g, .int .i64 o.time, .bool o.ins, .int .i64 o.key, .int .i64 o.id] 34) := Lib.hid ((HX2.out.drewN _).below hb)
  have HY3 : Hid (Blk w3 (w.heap.size + 1) #[.int .i64 (i : Int), .int .i64 g] 28) := Lib.hid ((HY2.out.drewN _).below hb)
  clear hb CK y0 y1 c2 x5 k0 k1
  have x0 := HX3.out.cell (j := 0) rfl
  have x1 := HX3.out.cell (j := 1) rfl
  have x2 := HX3.out.cell (j := 2) rfl
  have x3 := HX3.out.cell (j := 3) rfl
  have x4 := HX3.out.cell (j := 4) rfl
  have x5 := HX3.out.cell (j := 5) rfl
  have y0 := HY3.out.cell (j := 0) rfl
  have y1 := HY3.out.cell (j := 1) rfl
  clear HX2 HY2 HX3 HY3
  go_wp2_with fail
  go_ret
  exact ⟨rfl, HB3.out⟩

set_option maxRecDepth 100000 in
set_option maxHeartbeats 1000000 in
theorem revive_c2 (h : TabV w B M v t) {g : Int} {o : TOp} {i : Nat} {s : Slot} (ho : In64 o.time ∧ In64 o.key ∧ In64 o.id) (he : mayE t o.time = 0) (hs : t.slots[i]? = some s) (h3 : ¬ 0 < s.gen) (h4 : ¬ g < 1) (h5 : ¬ s.last < g) (hk : knownOf t o.id = true) (hins : o.ins = false) (hkey : o.key ≠ 0) :
    Calls Try.prog 13 #[.pointer (some ⟨B, 0, none⟩), aggListed (i : Int) g o] w fun e w' => e = .returned (.int .i64 2) ∧ Below w.heap.size w w' := by
  have CM : Hid (∀ w1, Below w.heap.size w w1 → Calls Try.prog 29 #[.pointer (some ⟨B, 0, none⟩), .int .i64 o.time] w1 fun e w' => e = .returned (.int .i64 (mayE t o.time)) ∧ ∃ n, w' = w1.drewN n) := Lib.hid (fun w1 hb => may (h.fresh hb) ho.1)
  have hu34 := Try.underlying34
  have hu32 := Try.underlying32
  have hu30 := Try.underlying30
  have hu28 := Try.underlying28
  have HT := Lib.hid h
  have HO := Lib.hid ho
  have hBl := h.head.lt
  have hMl := h.map.lt
  have hfew := h.good.few
  obtain ⟨A, cap, hv⟩ := h.slice
  have HV := Lib.hid hv
  clear hv
  rw [he] at CM
  clear he
  have q1 : (o.key == 0) = false := beq_eq_false_iff_ne.2 hkey
  have q2 : (o.key != 0) = true := by rw [bne, q1]; rfl
  clear hkey
  obtain ⟨R, cap', hv', hR, hle, hRB, hRM, hcc, hfr⟩ := HT.out.cells hs
  obtain ⟨rfl, _, rfl⟩ : A = some ⟨R, 0, none⟩ ∧ True ∧ cap = cap' := by
    have := HV.out.symm.trans hv'
    injection this with e1 e2 e3
    exact ⟨e1, trivial, e3⟩
  have HC : Hid (∀ j u, (encSlot s)[j]? = some u → w.cell? ⟨R, i * 6 + j, none⟩ = some u) := Lib.hid hcc
  have hlt := (List.getElem?_eq_some_iff.1 hs).1
  have HS := Lib.hid hs
  clear hv' hcc hfr hle hs
  clear h ho
  unfold aggListed
  go_enter Try.func13, Try.ntmps13
  go_wp2_with fail
  refine gw (fun wa hwa => ?_)
  have HB1 : Hid (Below w.heap.size w wa) := Lib.hid (by rw [← hwa]; exact ((Below.refl _ _).alloc (Nat.le_refl _) _).alloc (by simp) _)
  have HX1 : Hid (Blk wa w.heap.size #[.int .i64 (i : Int), .int .i64 g, .int .i64 o.time, .bool false, .int .i64 o.key, .int .i64 o.id] 34) := Lib.hid (by rw [← hwa]; exact (Blk.new _ _ _).alloc _)
  have HY1 : Hid (Blk wa (w.heap.size + 1) #[.int .i64 (i : Int), .int .i64 g] 28) := Lib.hid (by rw [← hwa]; exact Blk.at_ (by simp) _ _)
  clear hwa
  refine (CM.out _ HB1.out).mono ?_
  rintro e w2 ⟨rfl, n, rfl⟩
  have HX2 : Hid (Blk (wa.drewN n) w.heap.size #[.int .i64 (i : Int), .int .i64 g, .int .i64 o.time, .bool false, .int .i64 o.key, .int .i64 o.id] 34) := Lib.hid (HX1.out.drewN n)
  have HY2 : Hid (Blk (wa.drewN n) (w.heap.size + 1) #[.int .i64 (i : Int), .int .i64 g] 28) := Lib.hid (HY1.out.drewN n)
  have HB2 : Hid (Below w.heap.size w (wa.drewN n)) := Lib.hid (bdn HB1.out n)
  generalize wa.drewN n = w2 at *
  clear HB1 HX1 HY1 CM
  have y0 := HY2.out.cell (j := 0) rfl
  have y1 := HY2.out.cell (j := 1) rfl
  have c2 : w2.cell? ⟨B, 2, none⟩ = some (.slice (some ⟨R, 0, none⟩) t.slots.length cap) := by rw [← HV.out]; exact bcell HB2.out HT.out.c2 hBl
  have x5 := HX2.out.cell (j := 5) rfl
  have CK : Hid (∀ n, Calls Try.prog 33 #[.pointer (some ⟨B, 0, none⟩), .int .i64 o.id] (w2.drewN n) fun e w' => e = .returned (.bool (true)) ∧ Below (w2.drewN n).heap.size (w2.drewN n) w') := Lib.hid (fun n => by have := known (HT.out.fresh (bdn HB2.out n)) o.id; rw [hk] at this; exact this)
  have k1 : w2.cell? ⟨R, i * 6 + 1, none⟩ = some (.int .i64 s.gen) := bcell HB2.out (HC.out 1 _ rfl) hR
  have k0 : w2.cell? ⟨R, i * 6, none⟩ = some (.int .i64 s.last) := bcell HB2.out (HC.out 0 _ rfl) hR
  generalize hNN : t.slots.length = N at *
  have HNN := Lib.hid hNN
  clear hNN
  have t1 : decide ((i : Int) < 0) = false := decide_eq_false (by omega)
  have t2 : decide (N ≤ i) = false := decide_eq_false (by omega)
  have hi0 : (0 : Int) ≤ i := by omega
  have hiN : (i : Int) < N := by omega
  have e1 : (i : Int).toNat = i := by omega
  have t3 : decide (0 < s.gen) = false := decide_eq_false (by omega)
  have t4 : decide (g < 1) = false := decide_eq_false (by omega)
  have t5 : decide (s.last < g) = false := decide_eq_false (by omega)
  go_wp2_with fail
  go_quiet (fail)
  go_wp2_with fail
  refine (CK.out _).mono ?_
  rintro e w3 ⟨rfl, hb⟩
  have HB3 : Hid (Below w.heap.size w w3) := Lib.hid (btrans (bdn HB2.out _) hb)
  have HX3 : Hid (Blk w3 w.heap.size #[.int .i64 (i : Int), .int .i64 g, .int .i64 o.time, .bool false, .int .i64 o.key, .int .i64 o.id] 34) := Lib.hid ((HX2.out.drewN _).below hb)
  have HY3 : Hid (Blk w3 (w.heap.size + 1) #[.int .i64 (i : Int), .int .i64 g] 28) := Lib.hid ((HY2.out.drewN _).below hb)
  clear hb CK y0 y1 c2 x5 k0 k1
  have x0 := HX3.out.cell (j := 0) rfl
  have x1 := HX3.out.cell (j := 1) rfl
  have x2 := HX3.out.cell (j := 2) rfl
  have x3 := HX3.out.cell (j := 3) rfl
  have x4 := HX3.out.cell (j := 4) rfl
  have x5 := HX3.out.cell (j := 5) rfl
  have y0 := HY3.out.cell (j := 0) rfl
  have y1 := HY3.out.cell (j := 1) rfl
  clear HX2 HY2 HX3 HY3
  go_wp2_with fail
  go_ret
  exact ⟨rfl, HB3.out⟩

set_option maxRecDepth 100000 in
set_option maxHeartbeats 1000000 in
theorem revive_ok1 (h : TabV w B M v t) {g : Int} {o : TOp} {i : Nat} {s : Slot} (ho : In64 o.time ∧ In64 o.key ∧ In64 o.id) (he : mayE t o.time = 0) (hs : t.slots[i]? = some s) (h3 : ¬ 0 < s.gen) (h4 : ¬ g < 1) (h5 : ¬ s.last < g) (hk : knownOf t o.id = true) (hins : o.ins = true) :
    Calls Try.prog 13 #[.pointer (some ⟨B, 0, none⟩), aggListed (i : Int) g o] w fun e w' => e = .returned (.int .i64 0) ∧ TabV w' B M v { t with slots := t.slots.set i ⟨s.last, g, o⟩ } ∧ Chg (fun k => k = M ∨ v.ownBlock = some k) w w' := by
  have CM : Hid (∀ w1, Below w.heap.size w w1 → Calls Try.prog 29 #[.pointer (some ⟨B, 0, none⟩), .int .i64 o.time] w1 fun e w' => e = .returned (.int .i64 (mayE t o.time)) ∧ ∃ n, w' = w1.drewN n) := Lib.hid (fun w1 hb => may (h.fresh hb) ho.1)
  have hu34 := Try.underlying34
  have hu32 := Try.underlying32
  have hu30 := Try.underlying30
  have hu28 := Try.underlying28
  have HT := Lib.hid h
  have HO := Lib.hid ho
  have hBl := h.head.lt
  have hMl := h.map.lt
  have hfew := h.good.few
  obtain ⟨A, cap, hv⟩ := h.slice
  have HV := Lib.hid hv
  clear hv
  have hnt : timesOf t.slots o.time = none := by
    unfold mayE at he
    split at he
    · cases he
    · cases hf : timesOf t.slots o.time with
      | none => rfl
      | some y => rw [hf] at he; simp at he
  have HNT := Lib.hid hnt
  clear hnt
  rw [he] at CM
  clear he
  obtain ⟨R, cap', hv', hR, hle, hRB, hRM, hcc, hfr⟩ := HT.out.cells hs
  obtain ⟨rfl, _, rfl⟩ : A = some ⟨R, 0, none⟩ ∧ True ∧ cap = cap' := by
    have := HV.out.symm.trans hv'
    injection this with e1 e2 e3
    exact ⟨e1, trivial, e3⟩
  have HC : Hid (∀ j u, (encSlot s)[j]? = some u → w.cell? ⟨R, i * 6 + j, none⟩ = some u) := Lib.hid hcc
  have hlt := (List.getElem?_eq_some_iff.1 hs).1
  have HS := Lib.hid hs
  clear hv' hcc hfr hle hs
  clear h ho
  unfold aggListed
  go_enter Try.func13, Try.ntmps13
  go_wp2_with fail
  refine gw (fun wa hwa => ?_)
  have HB1 : Hid (Below w.heap.size w wa) := Lib.hid (by rw [← hwa]; exact ((Below.refl _ _).alloc (Nat.le_refl _) _).alloc (by simp) _)
  have HX1 : Hid (Blk wa w.heap.size #[.int .i64 (i : Int), .int .i64 g, .int .i64 o.time, .bool true, .int .i64 o.key, .int .i64 o.id] 34) := Lib.hid (by rw [← hwa]; exact (Blk.new _ _ _).alloc _)
  have HY1 : Hid (Blk wa (w.heap.size + 1) #[.int .i64 (i : Int), .int .i64 g] 28) := Lib.hid (by rw [← hwa]; exact Blk.at_ (by simp) _ _)
  clear hwa
  refine (CM.out _ HB1.out).mono ?_
  rintro e w2 ⟨rfl, n, rfl⟩
  have HX2 : Hid (Blk (wa.drewN n) w.heap.size #[.int .i64 (i : Int), .int .i64 g, .int .i64 o.time, .bool true, .int .i64 o.key, .int .i64 o.id] 34) := Lib.hid (HX1.out.drewN n)
  have HY2 : Hid (Blk (wa.drewN n) (w.heap.size + 1) #[.int .i64 (i : Int), .int .i64 g] 28) := Lib.hid (HY1.out.drewN n)
  have HB2 : Hid (Below w.heap.size w (wa.drewN n)) := Lib.hid (bdn HB1.out n)
  generalize wa.drewN n = w2 at *
  clear HB1 HX1 HY1 CM
  have y0 := HY2.out.cell (j := 0) rfl
  have y1 := HY2.out.cell (j := 1) rfl
  have c2 : w2.cell? ⟨B, 2, none⟩ = some (.slice (some ⟨R, 0, none⟩) t.slots.length cap) := by rw [← HV.out]; exact bcell HB2.out HT.out.c2 hBl
  have x5 := HX2.out.cell (j := 5) rfl
  have CK : Hid (∀ n, Calls Try.prog 33 #[.pointer (some ⟨B, 0, none⟩), .int .i64 o.id] (w2.drewN n) fun e w' => e = .returned (.bool (true)) ∧ Below (w2.drewN n).heap.size (w2.drewN n) w') := Lib.hid (fun n => by have := known (HT.out.fresh (bdn HB2.out n)) o.id; rw [hk] at this; exact this)
  have k1 : w2.cell? ⟨R, i * 6 + 1, none⟩ = some (.int .i64 s.gen) := bcell HB2.out (HC.out 1 _ rfl) hR
  have k0 : w2.cell? ⟨R, i * 6, none⟩ = some (.int .i64 s.last) := bcell HB2.out (HC.out 0 _ rfl) hR
  generalize hNN : t.slots.length = N at *
  have HNN := Lib.hid hNN
  clear hNN
  have t1 : decide ((i : Int) < 0) = false := decide_eq_false (by omega)
  have t2 : decide (N ≤ i) = false := decide_eq_false (by omega)
  have hi0 : (0 : Int) ≤ i := by omega
  have hiN : (i : Int) < N := by omega
  have e1 : (i : Int).toNat = i := by omega
  have t3 : decide (0 < s.gen) = false := decide_eq_false (by omega)
  have t4 : decide (g < 1) = false := decide_eq_false (by omega)
  have t5 : decide (s.last < g) = false := decide_eq_false (by omega)
  go_wp2_with fail
  go_quiet (fail)
  go_wp2_with fail
  refine (CK.out _).mono ?_
  rintro e w3 ⟨rfl, hb⟩
  have HB3 : Hid (Below w.heap.size w w3) := Lib.hid (btrans (bdn HB2.out _) hb)
  have HX3 : Hid (Blk w3 w.heap.size #[.int .i64 (i : Int), .int .i64 g, .int .i64 o.time, .bool true, .int .i64 o.key, .int .i64 o.id] 34) := Lib.hid ((HX2.out.drewN _).below hb)
  have HY3 : Hid (Blk w3 (w.heap.size + 1) #[.int .i64 (i : Int), .int .i64 g] 28) := Lib.hid ((HY2.out.drewN _).below hb)
  clear hb CK y0 y1 c2 x5 k0 k1
  have x0 := HX3.out.cell (j := 0) rfl
  have x1 := HX3.out.cell (j := 1) rfl
  have x2 := HX3.out.cell (j := 2) rfl
  have x3 := HX3.out.cell (j := 3) rfl
  have x4 := HX3.out.cell (j := 4) rfl
  have x5 := HX3.out.cell (j := 5) rfl
  have y0 := HY3.out.cell (j := 0) rfl
  have y1 := HY3.out.cell (j := 1) rfl
  clear HX2 HY2 HX3 HY3
  have hlay := lay (g := g) (o := o) (HT.out.fresh HB3.out) HS.out (by omega) (by omega) (by have := (HT.out.good.slots s (List.mem_of_getElem? HS.out)).last1; omega) HO.out HNT.out
  rw [show (if g ≤ s.last then s.last else g) = s.last from if_pos (by omega)] at hlay
  unfold aggOp at hlay
  rw [hins] at hlay
  have HLay := Lib.hid hlay
  clear hlay
  go_wp2_with fail
  refine HLay.out.mono ?_
  rintro e w4 ⟨rfl, ht4, hc4⟩
  have HT4 := Lib.hid ht4
  have HC4 := Lib.hid hc4
  clear ht4 hc4 HLay x0 x1 x2 x3 x4 x5 y0 y1
  go_wp2_with fail
  go_ret
  refine ⟨rfl, HT4.out, (Chg.of_below HB3.out).trans HC4.out (fun _ _ h => h)⟩

set_option maxRecDepth 100000 in
set_option maxHeartbeats 1000000 in
theorem revive_ok2 (h : TabV w B M v t) {g : Int} {o : TOp} {i : Nat} {s : Slot} (ho : In64 o.time ∧ In64 o.key ∧ In64 o.id) (he : mayE t o.time = 0) (hs : t.slots[i]? = some s) (h3 : ¬ 0 < s.gen) (h4 : ¬ g < 1) (h5 : ¬ s.last < g) (hk : knownOf t o.id = true) (hins : o.ins = false) (hkey : o.key = 0) :
    Calls Try.prog 13 #[.pointer (some ⟨B, 0, none⟩), aggListed (i : Int) g o] w fun e w' => e = .returned (.int .i64 0) ∧ TabV w' B M v { t with slots := t.slots.set i ⟨s.last, g, o⟩ } ∧ Chg (fun k => k = M ∨ v.ownBlock = some k) w w' := by
  have CM : Hid (∀ w1, Below w.heap.size w w1 → Calls Try.prog 29 #[.pointer (some ⟨B, 0, none⟩), .int .i64 o.time] w1 fun e w' => e = .returned (.int .i64 (mayE t o.time)) ∧ ∃ n, w' = w1.drewN n) := Lib.hid (fun w1 hb => may (h.fresh hb) ho.1)
  have hu34 := Try.underlying34
  have hu32 := Try.underlying32
  have hu30 := Try.underlying30
  have hu28 := Try.underlying28
  have HT := Lib.hid h
  have HO := Lib.hid ho
  have hBl := h.head.lt
  have hMl := h.map.lt
  have hfew := h.good.few
  obtain ⟨A, cap, hv⟩ := h.slice
  have HV := Lib.hid hv
  clear hv
  have hnt : timesOf t.slots o.time = none := by
    unfold mayE at he
    split at he
    · cases he
    · cases hf : timesOf t.slots o.time with
      | none => rfl
      | some y => rw [hf] at he; simp at he
  have HNT := Lib.hid hnt
  clear hnt
  rw [he] at CM
  clear he
  have q1 : (o.key == 0) = true := beq_iff_eq.2 hkey
  have q2 : (o.key != 0) = false := by rw [bne, q1]; rfl
  clear hkey
  obtain ⟨R, cap', hv', hR, hle, hRB, hRM, hcc, hfr⟩ := HT.out.cells hs
  obtain ⟨rfl, _, rfl⟩ : A = some ⟨R, 0, none⟩ ∧ True ∧ cap = cap' := by
    have := HV.out.symm.trans hv'
    injection this with e1 e2 e3
    exact ⟨e1, trivial, e3⟩
  have HC : Hid (∀ j u, (encSlot s)[j]? = some u → w.cell? ⟨R, i * 6 + j, none⟩ = some u) := Lib.hid hcc
  have hlt := (List.getElem?_eq_some_iff.1 hs).1
  have HS := Lib.hid hs
  clear hv' hcc hfr hle hs
  clear h ho
  unfold aggListed
  go_enter Try.func13, Try.ntmps13
  go_wp2_with fail
  refine gw (fun wa hwa => ?_)
  have HB1 : Hid (Below w.heap.size w wa) := Lib.hid (by rw [← hwa]; exact ((Below.refl _ _).alloc (Nat.le_refl _) _).alloc (by simp) _)
  have HX1 : Hid (Blk wa w.heap.size #[.int .i64 (i : Int), .int .i64 g, .int .i64 o.time, .bool false, .int .i64 o.key, .int .i64 o.id] 34) := Lib.hid (by rw [← hwa]; exact (Blk.new _ _ _).alloc _)
  have HY1 : Hid (Blk wa (w.heap.size + 1) #[.int .i64 (i : Int), .int .i64 g] 28) := Lib.hid (by rw [← hwa]; exact Blk.at_ (by simp) _ _)
  clear hwa
  refine (CM.out _ HB1.out).mono ?_
  rintro e w2 ⟨rfl, n, rfl⟩
  have HX2 : Hid (Blk (wa.drewN n) w.heap.size #[.int .i64 (i : Int), .int .i64 g, .int .i64 o.time, .bool false, .int .i64 o.key, .int .i64 o.id] 34) := Lib.hid (HX1.out.drewN n)
  have HY2 : Hid (Blk (wa.drewN n) (w.heap.size + 1) #[.int .i64 (i : Int), .int .i64 g] 28) := Lib.hid (HY1.out.drewN n)
  have HB2 : Hid (Below w.heap.size w (wa.drewN n)) := Lib.hid (bdn HB1.out n)
  generalize wa.drewN n = w2 at *
  clear HB1 HX1 HY1 CM
  have y0 := HY2.out.cell (j := 0) rfl
  have y1 := HY2.out.cell (j := 1) rfl
  have c2 : w2.cell? ⟨B, 2, none⟩ = some (.slice (some ⟨R, 0, none⟩) t.slots.length cap) := by rw [← HV.out]; exact bcell HB2.out HT.out.c2 hBl
  have x5 := HX2.out.cell (j := 5) rfl
  have CK : Hid (∀ n, Calls Try.prog 33 #[.pointer (some ⟨B, 0, none⟩), .int .i64 o.id] (w2.drewN n) fun e w' => e = .returned (.bool (true)) ∧ Below (w2.drewN n).heap.size (w2.drewN n) w') := Lib.hid (fun n => by have := known (HT.out.fresh (bdn HB2.out n)) o.id; rw [hk] at this; exact this)
  have k1 : w2.cell? ⟨R, i * 6 + 1, none⟩ = some (.int .i64 s.gen) := bcell HB2.out (HC.out 1 _ rfl) hR
  have k0 : w2.cell? ⟨R, i * 6, none⟩ = some (.int .i64 s.last) := bcell HB2.out (HC.out 0 _ rfl) hR
  generalize hNN : t.slots.length = N at *
  have HNN := Lib.hid hNN
  clear hNN
  have t1 : decide ((i : Int) < 0) = false := decide_eq_false (by omega)
  have t2 : decide (N ≤ i) = false := decide_eq_false (by omega)
  have hi0 : (0 : Int) ≤ i := by omega
  have hiN : (i : Int) < N := by omega
  have e1 : (i : Int).toNat = i := by omega
  have t3 : decide (0 < s.gen) = false := decide_eq_false (by omega)
  have t4 : decide (g < 1) = false := decide_eq_false (by omega)
  have t5 : decide (s.last < g) = false := decide_eq_false (by omega)
  go_wp2_with fail
  go_quiet (fail)
  go_wp2_with fail
  refine (CK.out _).mono ?_
  rintro e w3 ⟨rfl, hb⟩
  have HB3 : Hid (Below w.heap.size w w3) := Lib.hid (btrans (bdn HB2.out _) hb)
  have HX3 : Hid (Blk w3 w.heap.size #[.int .i64 (i : Int), .int .i64 g, .int .i64 o.time, .bool false, .int .i64 o.key, .int .i64 o.id] 34) := Lib.hid ((HX2.out.drewN _).below hb)
  have HY3 : Hid (Blk w3 (w.heap.size + 1) #[.int .i64 (i : Int), .int .i64 g] 28) := Lib.hid ((HY2.out.drewN _).below hb)
  clear hb CK y0 y1 c2 x5 k0 k1
  have x0 := HX3.out.cell (j := 0) rfl
  have x1 := HX3.out.cell (j := 1) rfl
  have x2 := HX3.out.cell (j := 2) rfl
  have x3 := HX3.out.cell (j := 3) rfl
  have x4 := HX3.out.cell (j := 4) rfl
  have x5 := HX3.out.cell (j := 5) rfl
  have y0 := HY3.out.cell (j := 0) rfl
  have y1 := HY3.out.cell (j := 1) rfl
  clear HX2 HY2 HX3 HY3
  have hlay := lay (g := g) (o := o) (HT.out.fresh HB3.out) HS.out (by omega) (by omega) (by have := (HT.out.good.slots s (List.mem_of_getElem? HS.out)).last1; omega) HO.out HNT.out
  rw [show (if g ≤ s.last then s.last else g) = s.last from if_pos (by omega)] at hlay
  unfold aggOp at hlay
  rw [hins] at hlay
  have HLay := Lib.hid hlay
  clear hlay
  go_wp2_with fail
  refine HLay.out.mono ?_
  rintro e w4 ⟨rfl, ht4, hc4⟩
  have HT4 := Lib.hid ht4
  have HC4 := Lib.hid hc4
  clear ht4 hc4 HLay x0 x1 x2 x3 x4 x5 y0 y1
  go_wp2_with fail
  go_ret
  refine ⟨rfl, HT4.out, (Chg.of_below HB3.out).trans HC4.out (fun _ _ h => h)⟩

end
end Go.Proofs.Ytccfjjaljckinaa.Tag
/- The calls on a table, each at every input: what they answer, and what they leave. -/
namespace Go.Proofs.Ytccfjjaljckinaa.Tag
open Go.RowKit Go.Lib Go.Shelf Go.Proofs.Ytccfjjaljckinaa.Mem Go.Proofs.Ytccfjjaljckinaa.IMap Go.Proofs.YtccfjjaljckinaaW.PrintWords

/-- A table at block B, all of whose blocks are among O. -/
def TabAt (w : World) (O : Nat → Prop) (B : Nat) (t : Tab) : Prop := ∃ M v, TabV w B M v t ∧ O B ∧ O M ∧ ∀ k, v.ownBlock = some k → O k
/-- O, and what was laid between two worlds. -/
def More (O : Nat → Prop) (w w' : World) (k : Nat) : Prop := O k ∨ (w.heap.size ≤ k ∧ k < w'.heap.size)

structure Ref where
  i : Int
  g : Int
structure Listed where
  r : Ref
  o : TOp
def In64O (o : TOp) : Prop := In64 o.time ∧ In64 o.key ∧ In64 o.id
def listed0 : Listed := ⟨⟨0, 0⟩, op0⟩
def aggL (l : Listed) : Value := aggListed l.r.i l.r.g l.o

def issueR (t : Tab) (x : Int) (ins : Bool) (key : Int) : Listed × Int × Tab :=
  if mayE t x = 0 then (⟨⟨freeI t, lastI t + 1⟩, issueOp t x ins key⟩, 0, issueT t x ins key) else (listed0, mayE t x, t)
def dropR (t : Tab) (r : Ref) : TOp × Bool × Tab :=
  match findOf t r.i r.g with
  | none => (op0, false, t)
  | some i => match t.slots[i]? with
    | some s => (s.op, true, { t with slots := t.slots.set i ⟨s.last, 0, op0⟩ })
    | none => (op0, false, t)
def moveR (t : Tab) (r : Ref) (x : Int) : Int × Tab :=
  match findOf t r.i r.g with
  | none => (13, t)
  | some i => match t.slots[i]? with
    | some s => if (timesOf t.slots x).isSome ∧ x ≠ s.op.time then (11, t) else (0, { t with slots := t.slots.set i (moveSlot s x) })
    | none => (13, t)
def reviveE (t : Tab) (l : Listed) : Int :=
  if mayE t l.o.time = 0 then
    (if l.r.i < 0 ∨ (t.slots.length : Int) ≤ l.r.i then 13 else match t.slots[l.r.i.toNat]? with
      | none => 13
      | some s => if 0 < s.gen ∨ l.r.g < 1 ∨ s.last < l.r.g then 13 else if knownOf t l.o.id = false ∨ (l.o.ins = false ∧ l.o.key ≠ 0) then 2 else 0)
  else mayE t l.o.time
def reviveT (t : Tab) (l : Listed) : Tab :=
  if reviveE t l = 0 then { t with slots := t.slots.set l.r.i.toNat ⟨((t.slots[l.r.i.toNat]?).map Slot.last).getD 0, l.r.g, l.o⟩ } else t

section
variable {w : World} {O : Nat → Prop} {B : Nat} {t : Tab}
theorem TabAt.good (h : TabAt w O B t) : Good t := by obtain ⟨M, v, h, _⟩ := h; exact h.good
theorem TabAt.keep {S : Nat → Prop} {w' : World} (h : TabAt w O B t) (hc : Chg S w w') (hs : ∀ k, O k → ¬ S k) : TabAt w' O B t := by
  obtain ⟨M, v, h, h1, h2, h3⟩ := h
  exact ⟨M, v, h.keep (hc.block B h.head.lt (hs B h1)) (hc.block M h.map.lt (hs M h2)) (fun k hk => hc.block k (h.ltV hk) (hs k (h3 k hk))), h1, h2, h3⟩
theorem TabAt.below {w' : World} (h : TabAt w O B t) (hb : Below w.heap.size w w') : TabAt w' O B t := h.keep (Chg.of_below (S := fun _ => False) hb) (fun _ _ h => h)
theorem TabAt.more {w1 w2 : World} (h : TabAt w O B t) : TabAt w (More O w1 w2) B t := by
  obtain ⟨M, v, h, h1, h2, h3⟩ := h
  exact ⟨M, v, h, Or.inl h1, Or.inl h2, fun k hk => Or.inl (h3 k hk)⟩
theorem newAt (c : Int) (w : World) : Calls Try.prog 9 #[.int .i64 c] w fun e w' => e = .returned (.pointer (some ⟨w.heap.size + 1, 0, none⟩)) ∧ TabAt w' (fun k => w.heap.size ≤ k ∧ k < w'.heap.size) (w.heap.size + 1) (newT c) ∧ Below w.heap.size w w' := by
  refine (new_ c w).mono ?_
  rintro e w' ⟨rfl, h, hb⟩
  exact ⟨rfl, ⟨_, _, h, ⟨by omega, h.head.lt⟩, ⟨Nat.le_refl _, h.map.lt⟩, fun k hk => by cases hk⟩, hb⟩

theorem issueAt (h : TabAt w O B t) {x key : Int} {ins : Bool} (hx : In64 x) (hk : In64 key) (hroom : t.slots.length + 1 ≤ 1000000) (hser : t.serial < 9223372036854775807) :
    Calls Try.prog 11 #[.pointer (some ⟨B, 0, none⟩), .int .i64 x, .bool ins, .int .i64 key] w fun e w' => e = .returned (.tuple #[aggL (issueR t x ins key).1, .int .i64 (issueR t x ins key).2.1]) ∧ TabAt w' (More O w w') B (issueR t x ins key).2.2 ∧ Chg O w w' := by
  obtain ⟨M, v, h, h1, h2, h3⟩ := h
  unfold issueR
  by_cases he : mayE t x = 0
  · rw [if_pos he]
    have fin : ∀ (e : Ending) (w' : World), (e = .returned (.tuple #[aggListed (freeI t) (lastI t + 1) (issueOp t x ins key), .int .i64 0]) ∧ ∃ v', TabV w' B M v' (issueT t x ins key) ∧
      Chg (fun k => k = B ∨ k = M ∨ v.ownBlock = some k) w w' ∧ (v'.ownBlock = v.ownBlock ∨ ∃ k, v'.ownBlock = some k ∧ w.heap.size ≤ k)) →
      e = .returned (.tuple #[aggL ⟨⟨freeI t, lastI t + 1⟩, issueOp t x ins key⟩, .int .i64 0]) ∧ TabAt w' (More O w w') B (issueT t x ins key) ∧ Chg O w w' := by
      rintro e w' ⟨rfl, v', h4, h5, h6⟩
      refine ⟨rfl, ⟨M, v', h4, Or.inl h1, Or.inl h2, fun k hk => ?_⟩, h5.mono (fun k _ hk => by rcases hk with rfl | rfl | hk; exact h1; exact h2; exact h3 k hk)⟩
      rcases h6 with e | ⟨j, e, hj⟩
      · exact Or.inl (h3 k (by rw [← e]; exact hk))
      · have hlt := h4.ltV hk
        rw [e] at hk; injection hk with hk
        exact Or.inr ⟨by omega, by omega⟩
    cases ins with
    | true => exact (issue_true h hx hk he hroom hser).mono fin
    | false => exact (issue_false (key := key) h hx (by unfold In64; omega) he hroom hser).mono fin
  · rw [if_neg he]
    refine (issue_err h hx he).mono ?_
    rintro e w' ⟨rfl, hb⟩
    exact ⟨rfl, (TabAt.below ⟨M, v, h, h1, h2, h3⟩ hb).more, Chg.of_below hb⟩

theorem chgO {M : Nat} {v : Value} {w' : World} (h2 : O M) (h3 : ∀ k, v.ownBlock = some k → O k) (h : Chg (fun k => k = M ∨ v.ownBlock = some k) w w') : Chg O w w' :=
  h.mono (fun k _ hk => by rcases hk with rfl | hk; exact h2; exact h3 k hk)

theorem dropAt (h : TabAt w O B t) (r : Ref) :
    Calls Try.prog 12 #[.pointer (some ⟨B, 0, none⟩), .agg #[.int .i64 r.i, .int .i64 r.g]] w fun e w' => e = .returned (.tuple #[aggOp (dropR t r).1, .bool (dropR t r).2.1]) ∧ TabAt w' O B (dropR t r).2.2 ∧ Chg O w w' := by
  obtain ⟨M, v, h, h1, h2, h3⟩ := h
  unfold dropR
  cases hf : findOf t r.i r.g with
  | none =>
    refine (drop_none h hf).mono ?_
    rintro e w' ⟨rfl, hb⟩
    exact ⟨rfl, TabAt.below ⟨M, v, h, h1, h2, h3⟩ hb, Chg.of_below hb⟩
  | some i =>
    obtain ⟨s, hs, _⟩ := findOf_some hf
    simp only
    rw [hs]
    refine (drop_some h hf hs).mono ?_
    rintro e w' ⟨rfl, h4, h5⟩
    exact ⟨rfl, ⟨M, v, h4, h1, h2, h3⟩, chgO h2 h3 h5⟩

theorem reviveAt (h : TabAt w O B t) (l : Listed) (ho : In64O l.o) :
    Calls Try.prog 13 #[.pointer (some ⟨B, 0, none⟩), aggL l] w fun e w' => e = .returned (.int .i64 (reviveE t l)) ∧ TabAt w' O B (reviveT t l) ∧ Chg O w w' := by
  obtain ⟨M, v, h, h1, h2, h3⟩ := h
  have err : ∀ {E : Int}, E ≠ 0 → reviveE t l = E → Calls Try.prog 13 #[.pointer (some ⟨B, 0, none⟩), aggL l] w (fun e w' => e = .returned (.int .i64 E) ∧ Below w.heap.size w w') →
      Calls Try.prog 13 #[.pointer (some ⟨B, 0, none⟩), aggL l] w fun e w' => e = .returned (.int .i64 (reviveE t l)) ∧ TabAt w' O B (reviveT t l) ∧ Chg O w w' := by
    intro E hE he hc
    refine hc.mono ?_
    rintro e w' ⟨rfl, hb⟩
    refine ⟨by rw [he], ?_, Chg.of_below hb⟩
    unfold reviveT
    rw [he, if_neg hE]
    exact TabAt.below ⟨M, v, h, h1, h2, h3⟩ hb
  by_cases he : mayE t l.o.time = 0
  · have e0 : ∀ X, reviveE t l = X ↔ (if l.r.i < 0 ∨ (t.slots.length : Int) ≤ l.r.i then 13 else match t.slots[l.r.i.toNat]? with
      | none => 13
      | some s => if 0 < s.gen ∨ l.r.g < 1 ∨ s.last < l.r.g then 13 else if knownOf t l.o.id = false ∨ (l.o.ins = false ∧ l.o.key ≠ 0) then 2 else 0) = X := by
      intro X; unfold reviveE; rw [if_pos he]
    by_cases a1 : l.r.i < 0
    · exact err (by decide) ((e0 13).2 (if_pos (Or.inl a1))) (revive_b1 h ho he a1)
    by_cases a2 : (t.slots.length : Int) ≤ l.r.i
    · exact err (by decide) ((e0 13).2 (if_pos (Or.inr a2))) (revive_b2 h ho he a1 a2)
    obtain ⟨i, hi⟩ : ∃ i : Nat, l.r.i = i := ⟨l.r.i.toNat, by omega⟩
    have hlt : i < t.slots.length := by omega
    obtain ⟨s, hs⟩ : ∃ s, t.slots[i]? = some s := ⟨_, List.getElem?_eq_getElem hlt⟩
    have ea : aggL l = aggListed (i : Int) l.r.g l.o := by unfold aggL; rw [hi]
    have e1 : ∀ X, reviveE t l = X ↔ (if 0 < s.gen ∨ l.r.g < 1 ∨ s.last < l.r.g then 13 else if knownOf t l.o.id = false ∨ (l.o.ins = false ∧ l.o.key ≠ 0) then 2 else 0) = X := by
      intro X; rw [e0, if_neg (by omega), hi, Int.toNat_natCast, hs]
    by_cases a3 : 0 < s.gen
    · exact err (by decide) ((e1 13).2 (if_pos (Or.inl a3))) (by rw [ea]; exact revive_b3 h ho he hs a3)
    by_cases a4 : l.r.g < 1
    · exact err (by decide) ((e1 13).2 (if_pos (Or.inr (Or.inl a4)))) (by rw [ea]; exact revive_b4 h ho he hs a3 a4)
    by_cases a5 : s.last < l.r.g
    · exact err (by decide) ((e1 13).2 (if_pos (Or.inr (Or.inr a5)))) (by rw [ea]; exact revive_b5 h ho he hs a3 a4 a5)
    have e2 : ∀ X, reviveE t l = X ↔ (if knownOf t l.o.id = false ∨ (l.o.ins = false ∧ l.o.key ≠ 0) then 2 else 0) = X := by
      intro X; rw [e1, if_neg (fun h => by rcases h with h | h | h; exact a3 h; exact a4 h; exact a5 h)]
    cases hk : knownOf t l.o.id with
    | false => exact err (by decide) ((e2 2).2 (if_pos (Or.inl hk))) (by rw [ea]; exact revive_c1 h ho he hs a3 a4 a5 hk)
    | true =>
      have okk : reviveE t l = 0 → Calls Try.prog 13 #[.pointer (some ⟨B, 0, none⟩), aggListed (i : Int) l.r.g l.o] w (fun e w' => e = .returned (.int .i64 0) ∧ TabV w' B M v { t with slots := t.slots.set i ⟨s.last, l.r.g, l.o⟩ } ∧ Chg (fun k => k = M ∨ v.ownBlock = some k) w w') →
          Calls Try.prog 13 #[.pointer (some ⟨B, 0, none⟩), aggL l] w fun e w' => e = .returned (.int .i64 (reviveE t l)) ∧ TabAt w' O B (reviveT t l) ∧ Chg O w w' := by
        intro h0 hc
        rw [ea]
        refine hc.mono ?_
        rintro e w' ⟨rfl, h4, h5⟩
        refine ⟨by rw [h0], ?_, chgO h2 h3 h5⟩
        unfold reviveT
        rw [if_pos h0, hi, Int.toNat_natCast, hs]
        exact ⟨M, v, h4, h1, h2, h3⟩
      cases hins : l.o.ins with
      | true => exact okk ((e2 0).2 (if_neg (fun h => by rcases h with h | h; rw [hk] at h; cases h; rw [hins] at h; cases h.1))) (revive_ok1 h ho he hs a3 a4 a5 hk hins)
      | false =>
        by_cases hkey : l.o.key = 0
        · exact okk ((e2 0).2 (if_neg (fun h => by rcases h with h | h; rw [hk] at h; cases h; exact h.2 hkey))) (revive_ok2 h ho he hs a3 a4 a5 hk hins hkey)
        · exact err (by decide) ((e2 2).2 (if_pos (Or.inr ⟨hins, hkey⟩))) (by rw [ea]; exact revive_c2 h ho he hs a3 a4 a5 hk hins hkey)
  · exact err he (by unfold reviveE; rw [if_neg he]) (revive_may h ho he)
end
end Go.Proofs.Ytccfjjaljckinaa.Tag
/- The document's example of tables. -/
namespace Go.Proofs.Ytccfjjaljckinaa.Tag
open Go.RowKit Go.Lib Go.Shelf Go.Proofs.Ytccfjjaljckinaa.Mem Go.Proofs.Ytccfjjaljckinaa.IMap Go.Proofs.YtccfjjaljckinaaW.PrintWords

def tb0 : Tab := ⟨9, 0, []⟩
def tb1 : Tab := ⟨9, 1, [⟨1, 1, ⟨5, true, 7, 0⟩⟩]⟩
def tb2 : Tab := ⟨9, 1, [⟨1, 0, ⟨0, false, 0, 0⟩⟩]⟩
def tb3 : Tab := ⟨9, 2, [⟨2, 2, ⟨5, false, 0, 1⟩⟩]⟩
def tb4 : Tab := ⟨9, 2, [⟨2, 0, ⟨0, false, 0, 0⟩⟩]⟩
def tb5 : Tab := ⟨9, 2, [⟨2, 1, ⟨5, true, 7, 0⟩⟩]⟩
def tb6 : Tab := ⟨9, 2, [⟨2, 0, ⟨0, false, 0, 0⟩⟩]⟩
def tb7 : Tab := ⟨9, 3, [⟨3, 3, ⟨6, true, 1, 2⟩⟩]⟩
theorem tn : newT 9 = tb0 := rfl
theorem ti1 : issueR tb0 5 true 7 = (⟨⟨0, 1⟩, ⟨5, true, 7, 0⟩⟩, 0, tb1) := by rfl
theorem td2 : dropR tb1 ⟨0, 1⟩ = (⟨5, true, 7, 0⟩, true, tb2) := by rfl
theorem ti3 : issueR tb2 5 false 7 = (⟨⟨0, 2⟩, ⟨5, false, 0, 1⟩⟩, 0, tb3) := by rfl
theorem td4 : dropR tb3 ⟨0, 2⟩ = (⟨5, false, 0, 1⟩, true, tb4) := by rfl
theorem tr5 : reviveE tb4 ⟨⟨0, 1⟩, ⟨5, true, 7, 0⟩⟩ = 0 ∧ reviveT tb4 ⟨⟨0, 1⟩, ⟨5, true, 7, 0⟩⟩ = tb5 := by constructor <;> rfl
theorem td6 : dropR tb5 ⟨0, 1⟩ = (⟨5, true, 7, 0⟩, true, tb6) := by rfl
theorem ti7 : issueR tb6 6 true 1 = (⟨⟨0, 3⟩, ⟨6, true, 1, 2⟩⟩, 0, tb7) := by rfl
theorem in64_small {n : Int} (h : -1000 ≤ n) (h' : n ≤ 1000) : In64 n := by unfold In64; omega

set_option maxRecDepth 100000 in
set_option maxHeartbeats 4000000 in
theorem awake (w : World) : Calls Try.prog 8 #[] w fun e w' => e = .returned (.bool true) ∧ Below w.heap.size w w' := by
  have hu34 := Try.underlying34
  have hu32 := Try.underlying32
  have hu30 := Try.underlying30
  have hu28 := Try.underlying28
  go_enter Try.func8, Try.ntmps8
  go_wp2_with fail
  refine (newAt 9 w).mono ?_
  rintro e w1 ⟨rfl, ht, hb⟩
  rw [tn] at ht
  have HT1 := Lib.hid ht
  have HB1 : Hid (Below w.heap.size w w1) := Lib.hid hb
  have z1 := hb.size
  clear ht hb
  go_wp2_with fail
  refine (issueAt HT1.out (x := 5) (key := 7) (ins := true) (in64_small (by decide) (by decide)) (in64_small (by decide) (by decide)) (by decide) (by decide)).mono ?_
  rintro e w2 ⟨he, ht, hc⟩
  rw [ti1] at he ht
  change e = .returned (.tuple #[.agg #[.int .i64 0, .int .i64 1, .int .i64 5, .bool true, .int .i64 7, .int .i64 0] , .int .i64 0]) at he
  subst he
  have HT2 := Lib.hid ht
  have HB2 : Hid (Below w.heap.size w w2) := Lib.hid (HB1.out.trans (hc.below (fun k hk _ h => by omega) z1))
  have z2 := hc.size
  clear ht hc HT1
  go_wp2_with fail
  refine gw (fun wa hwa => ?_)
  have HBa : Hid (Below w2.heap.size w2 wa) := Lib.hid (by rw [← hwa]; exact (Below.refl _ _).alloc (Nat.le_refl _) _)
  have HXa : Hid (Blk wa w2.heap.size #[.int .i64 0, .int .i64 1, .int .i64 5, .bool true, .int .i64 7, .int .i64 0] 34) := Lib.hid (by rw [← hwa]; exact Blk.new _ _ _)
  have za : w2.heap.size < wa.heap.size := HXa.out.lt
  clear hwa
  refine (dropAt (HT2.out.below HBa.out) ⟨0, 1⟩).mono ?_
  rintro e w3 ⟨he, ht, hc⟩
  rw [td2] at he ht
  subst he
  have HT3 := Lib.hid ht
  have HXa3 : Hid (Blk w3 w2.heap.size #[.int .i64 0, .int .i64 1, .int .i64 5, .bool true, .int .i64 7, .int .i64 0] 34) := Lib.hid (HXa.out.keep hc (by unfold More; omega))
  have HB3 : Hid (Below w.heap.size w w3) := Lib.hid (HB2.out.trans ((HBa.out.mono (by omega)).trans (hc.below (fun k hk _ h => by unfold More at h; omega) (by omega))))
  have z3 := hc.size
  clear ht hc HT2 HXa HBa
  go_wp2_with fail
  refine (issueAt HT3.out (x := 5) (key := 7) (ins := false) (in64_small (by decide) (by decide)) (in64_small (by decide) (by decide)) (by decide) (by decide)).mono ?_
  rintro e w4 ⟨he, ht, hc⟩
  rw [ti3] at he ht
  change e = .returned (.tuple #[.agg #[.int .i64 0, .int .i64 2, .int .i64 5, .bool false, .int .i64 0, .int .i64 1] , .int .i64 0]) at he
  subst he
  have HT4 := Lib.hid ht
  have HXa4 : Hid (Blk w4 w2.heap.size #[.int .i64 0, .int .i64 1, .int .i64 5, .bool true, .int .i64 7, .int .i64 0] 34) := Lib.hid (HXa3.out.keep hc (by unfold More; omega))
  have HB4 : Hid (Below w.heap.size w w4) := Lib.hid (HB3.out.trans (hc.below (fun k hk _ h => by unfold More at h; omega) (by omega)))
  have z4 := hc.size
  clear ht hc HT3 HXa3
  go_wp2_with fail
  refine gw (fun wb hwb => ?_)
  have HBb : Hid (Below w4.heap.size w4 wb) := Lib.hid (by rw [← hwb]; exact (Below.refl _ _).alloc (Nat.le_refl _) _)
  have HXb : Hid (Blk wb w4.heap.size #[.int .i64 0, .int .i64 2, .int .i64 5, .bool false, .int .i64 0, .int .i64 1] 34) := Lib.hid (by rw [← hwb]; exact Blk.new _ _ _)
  have zb : w4.heap.size < wb.heap.size := HXb.out.lt
  clear hwb
  refine (dropAt (HT4.out.below HBb.out) ⟨0, 2⟩).mono ?_
  rintro e w5 ⟨he, ht, hc⟩
  rw [td4] at he ht
  subst he
  have HT5 := Lib.hid ht
  have HXa5 : Hid (Blk w5 w2.heap.size #[.int .i64 0, .int .i64 1, .int .i64 5, .bool true, .int .i64 7, .int .i64 0] 34) := Lib.hid ((HXa4.out.below HBb.out).keep hc (by unfold More; omega))
  have HXb5 : Hid (Blk w5 w4.heap.size #[.int .i64 0, .int .i64 2, .int .i64 5, .bool false, .int .i64 0, .int .i64 1] 34) := Lib.hid (HXb.out.keep hc (by unfold More; omega))
  have HB5 : Hid (Below w.heap.size w w5) := Lib.hid (HB4.out.trans ((HBb.out.mono (by omega)).trans (hc.below (fun k hk _ h => by unfold More at h; omega) (by omega))))
  have z5 := hc.size
  clear ht hc HT4 HXa4 HXb HBb
  have a0 := HXa5.out.cell (j := 0) rfl
  have a1 := HXa5.out.cell (j := 1) rfl
  have a2 := HXa5.out.cell (j := 2) rfl
  have a3 := HXa5.out.cell (j := 3) rfl
  have a4 := HXa5.out.cell (j := 4) rfl
  have a5 := HXa5.out.cell (j := 5) rfl
  go_wp2_with fail
  refine (reviveAt HT5.out ⟨⟨0, 1⟩, ⟨5, true, 7, 0⟩⟩ ⟨in64_small (by decide) (by decide), in64_small (by decide) (by decide), in64_small (by decide) (by decide)⟩).mono ?_
  rintro e w6 ⟨he, ht, hc⟩
  rw [tr5.1] at he
  rw [tr5.2] at ht
  subst he
  have HT6 := Lib.hid ht
  have HXa6 : Hid (Blk w6 w2.heap.size #[.int .i64 0, .int .i64 1, .int .i64 5, .bool true, .int .i64 7, .int .i64 0] 34) := Lib.hid (HXa5.out.keep hc (by unfold More; omega))
  have HXb6 : Hid (Blk w6 w4.heap.size #[.int .i64 0, .int .i64 2, .int .i64 5, .bool false, .int .i64 0, .int .i64 1] 34) := Lib.hid (HXb5.out.keep hc (by unfold More; omega))
  have HB6 : Hid (Below w.heap.size w w6) := Lib.hid (HB5.out.trans (hc.below (fun k hk _ h => by unfold More at h; omega) (by omega)))
  have z6 := hc.size
  clear ht hc HT5 HXa5 HXb5 a0 a1 a2 a3 a4 a5
  have a0 := HXa6.out.cell (j := 0) rfl
  have a1 := HXa6.out.cell (j := 1) rfl
  have a2 := HXa6.out.cell (j := 2) rfl
  have a3 := HXa6.out.cell (j := 3) rfl
  have a4 := HXa6.out.cell (j := 4) rfl
  have a5 := HXa6.out.cell (j := 5) rfl
  go_wp2_with fail
  refine (dropAt HT6.out ⟨0, 1⟩).mono ?_
  rintro e w7 ⟨he, ht, hc⟩
  rw [td6] at he ht
  subst he
  have HT7 := Lib.hid ht
  have HXa7 : Hid (Blk w7 w2.heap.size #[.int .i64 0, .int .i64 1, .int .i64 5, .bool true, .int .i64 7, .int .i64 0] 34) := Lib.hid (HXa6.out.keep hc (by unfold More; omega))
  have HXb7 : Hid (Blk w7 w4.heap.size #[.int .i64 0, .int .i64 2, .int .i64 5, .bool false, .int .i64 0, .int .i64 1] 34) := Lib.hid (HXb6.out.keep hc (by unfold More; omega))
  have HB7 : Hid (Below w.heap.size w w7) := Lib.hid (HB6.out.trans (hc.below (fun k hk _ h => by unfold More at h; omega) (by omega)))
  have z7 := hc.size
  clear ht hc HT6 HXa6 HXb6 a0 a1 a2 a3 a4 a5
  go_wp2_with fail
  refine (issueAt HT7.out (x := 6) (key := 1) (ins := true) (in64_small (by decide) (by decide)) (in64_small (by decide) (by decide)) (by decide) (by decide)).mono ?_
  rintro e w8 ⟨he, ht, hc⟩
  rw [ti7] at he ht
  change e = .returned (.tuple #[.agg #[.int .i64 0, .int .i64 3, .int .i64 6, .bool true, .int .i64 1, .int .i64 2] , .int .i64 0]) at he
  subst he
  have HXa8 : Hid (Blk w8 w2.heap.size #[.int .i64 0, .int .i64 1, .int .i64 5, .bool true, .int .i64 7, .int .i64 0] 34) := Lib.hid (HXa7.out.keep hc (by unfold More; omega))
  have HXb8 : Hid (Blk w8 w4.heap.size #[.int .i64 0, .int .i64 2, .int .i64 5, .bool false, .int .i64 0, .int .i64 1] 34) := Lib.hid (HXb7.out.keep hc (by unfold More; omega))
  have HB8 : Hid (Below w.heap.size w w8) := Lib.hid (HB7.out.trans (hc.below (fun k hk _ h => by unfold More at h; omega) (by omega)))
  have z8 := hc.size
  clear ht hc HT7 HXa7 HXb7
  have a0 := HXa8.out.cell (j := 0) rfl
  have a1 := HXa8.out.cell (j := 1) rfl
  have a2 := HXa8.out.cell (j := 2) rfl
  have a3 := HXa8.out.cell (j := 3) rfl
  have a4 := HXa8.out.cell (j := 4) rfl
  have a5 := HXa8.out.cell (j := 5) rfl
  have b0 := HXb8.out.cell (j := 0) rfl
  have b1 := HXb8.out.cell (j := 1) rfl
  have b2 := HXb8.out.cell (j := 2) rfl
  have b3 := HXb8.out.cell (j := 3) rfl
  have b4 := HXb8.out.cell (j := 4) rfl
  have b5 := HXb8.out.cell (j := 5) rfl
  have ha8 : w2.heap.size < w8.heap.size := HXa8.out.lt
  have hb8 : w4.heap.size < w8.heap.size := HXb8.out.lt
  go_wp2
  go_ret
  exact ⟨by rfl, HB8.out.alloc (by omega) _⟩
end Go.Proofs.Ytccfjjaljckinaa.Tag
/- No handle and no number is issued twice: plain facts on tables. No conditions. -/
namespace Go.Proofs.Ytccfjjaljckinaa.Tag
open Go.RowKit Go.Proofs.Ytccfjjaljckinaa.Mem Go.Proofs.Ytccfjjaljckinaa.IMap

/-- Slots stay, and what was issued of each stays or grows. -/
def Grows (t t' : Tab) : Prop := t.slots.length ≤ t'.slots.length ∧ ∀ (i : Nat) (s : Slot), t.slots[i]? = some s → ∃ s', t'.slots[i]? = some s' ∧ s.last ≤ s'.last
theorem Grows.refl (t : Tab) : Grows t t := ⟨Nat.le_refl _, fun _ s h => ⟨s, h, Int.le_refl _⟩⟩
theorem Grows.trans {a b c : Tab} (h : Grows a b) (h' : Grows b c) : Grows a c := ⟨Nat.le_trans h.1 h'.1, fun i s hs => by
  obtain ⟨s1, h1, l1⟩ := h.2 i s hs
  obtain ⟨s2, h2, l2⟩ := h'.2 i s1 h1
  exact ⟨s2, h2, Int.le_trans l1 l2⟩⟩
theorem Grows.set {t : Tab} {i : Nat} {s : Slot} (s' : Slot) (hs : t.slots[i]? = some s) (hl : s.last ≤ s'.last) (c d : Int) : Grows t ⟨c, d, t.slots.set i s'⟩ := by
  refine ⟨by simp, fun j x hx => ?_⟩
  by_cases hj : j = i
  · subst hj
    rw [hs] at hx; injection hx with hx; subst hx
    exact ⟨s', set_at hs, hl⟩
  · exact ⟨x, by rw [← hx]; exact set_off hj, Int.le_refl _⟩
theorem Grows.free (t : Tab) : Grows t (freeT t) := by
  unfold freeT
  split
  · exact Grows.refl t
  · exact ⟨by simp, fun i s hs => ⟨s, by rw [← hs]; exact List.getElem?_append_left (List.getElem?_eq_some_iff.1 hs).1, Int.le_refl _⟩⟩
theorem freeT_len (t : Tab) : (freeT t).slots.length ≤ t.slots.length + 1 := by unfold freeT; split <;> simp

theorem issue_grows {t : Tab} {x : Int} {ins : Bool} {key : Int} : Grows t (issueT t x ins key) ∧ (issueT t x ins key).slots.length ≤ t.slots.length + 1 := by
  obtain ⟨s, hs, _, _, hl⟩ := free_slot t
  unfold issueT
  exact ⟨(Grows.free t).trans (Grows.set _ hs (by show s.last ≤ lastI t + 1; omega) _ _), by simp; exact freeT_len t⟩

/-- Whatever was told is of this table. -/
structure Told (told : List Listed) (t : Tab) : Prop where
  serial : t.serial = told.length
  each : ∀ l ∈ told, 0 ≤ l.r.i ∧ l.o.id < t.serial ∧ ∃ s, t.slots[l.r.i.toNat]? = some s ∧ l.r.g ≤ s.last
  fits : ∀ l ∈ told, In64 l.r.i ∧ In64 l.r.g ∧ In64O l.o
theorem Told.grow {told : List Listed} {t t' : Tab} (h : Told told t) (hg : Grows t t') (hs : t'.serial = t.serial) : Told told t' := by
  refine ⟨hs.trans h.serial, fun l hl => ?_, h.fits⟩
  obtain ⟨a, b, s, c, d⟩ := h.each l hl
  obtain ⟨s', c', d'⟩ := hg.2 _ s c
  exact ⟨a, by rw [hs]; exact b, s', c', Int.le_trans d d'⟩
theorem Told.new {told : List Listed} {t : Tab} (h : Told told t) (x : Int) (ins : Bool) (key : Int) : ∀ l ∈ told, (l.r.i = (freeI t : Int) → l.r.g ≠ lastI t + 1) ∧ l.o.id ≠ (issueOp t x ins key).id := by
  intro l hl
  obtain ⟨a, b, s, c, d⟩ := h.each l hl
  refine ⟨fun e hg => ?_, fun e => ?_⟩
  · obtain ⟨s1, c1, d1⟩ := (Grows.free t).2 _ s c
    rw [e, Int.toNat_natCast] at c1
    obtain ⟨s2, c2, _, _, e2⟩ := free_slot t
    rw [c1] at c2
    injection c2 with c2
    subst c2
    omega
  · unfold issueOp at e
    simp only at e
    omega
theorem Told.issued {told : List Listed} {t : Tab} (h : Told told t) (g : Good t) {x : Int} {ins : Bool} {key : Int} (hx : In64 x) (hk : In64 key) (hl : t.slots.length ≤ 1000000) (_ : t.serial ≤ 1000000) : Told (told ++ [⟨⟨freeI t, lastI t + 1⟩, issueOp t x ins key⟩]) (issueT t x ins key) := by
  obtain ⟨s, hs, _, hlt, hla⟩ := free_slot t
  have hlen : freeI t < (freeT t).slots.length := (List.getElem?_eq_some_iff.1 hs).1
  have hf := freeT_len t
  have l0 : 0 ≤ s.last := by
    unfold freeT at hs
    split at hs
    · exact (g.slots s (List.mem_of_getElem? hs)).last0
    · rcases List.mem_append.1 (List.mem_of_getElem? hs) with h1 | h1
      · exact (g.slots s h1).last0
      · rw [List.mem_singleton] at h1; subst h1; decide
  refine ⟨?_, fun l hl => ?_, fun l hl => ?_⟩
  · show t.serial + 1 = _
    rw [h.serial]; simp
  · rcases List.mem_append.1 hl with hl | hl
    · obtain ⟨a, b, s1, c, d⟩ := h.each l hl
      obtain ⟨s', c', d'⟩ := (issue_grows (t := t) (x := x) (ins := ins) (key := key)).1.2 _ s1 c
      exact ⟨a, by show l.o.id < t.serial + 1; omega, s', c', Int.le_trans d d'⟩
    · rw [List.mem_singleton] at hl
      subst hl
      refine ⟨by show 0 ≤ (freeI t : Int); omega, by show t.serial < t.serial + 1; omega, ⟨lastI t + 1, lastI t + 1, issueOp t x ins key⟩, ?_, Int.le_refl _⟩
      show ((freeT t).slots.set (freeI t) _)[(freeI t : Int).toNat]? = _
      rw [Int.toNat_natCast]
      exact set_at hs
  · rcases List.mem_append.1 hl with hl | hl
    · exact h.fits l hl
    · rw [List.mem_singleton] at hl
      subst hl
      refine ⟨⟨by show _ ≤ (freeI t : Int); omega, by show (freeI t : Int) ≤ _; omega⟩, ⟨by show _ ≤ lastI t + 1; omega, by show lastI t + 1 ≤ _; omega⟩, hx, ?_, ?_⟩
      · show In64 (if ins then key else 0)
        split
        · exact hk
        · unfold In64; omega
      · exact g.serial
end Go.Proofs.Ytccfjjaljckinaa.Tag
/- No handle twice: the law, walked. -/
namespace Go.Proofs.Ytccfjjaljckinaa.Tag
open Go.RowKit Go.Lib Go.Shelf Go.Proofs.Ytccfjjaljckinaa.Mem Go.Proofs.Ytccfjjaljckinaa.IMap Go.Proofs.YtccfjjaljckinaaW.PrintWords

def restI (a n : Int) : Int := Int.tmod (wrap64 (Int.tmod a n + n)) n
theorem rest (a n : Int) (h0 : 0 < n) (w : World) : Calls Try.prog 10 #[.int .i64 a, .int .i64 n] w fun e w' => e = .returned (.int .i64 (restI a n)) ∧ ∃ k, w' = w.drewN k := by
  refine (PTagOnce.whilomref01_Rest.calls a n (restI a n) w (by unfold PTagOnce.whilomref01_Rest.f; rw [if_neg (by omega)]; rfl)).mono ?_
  rintro e w' ⟨rfl, h⟩
  exact ⟨rfl, h.out⟩

/-- Lists of operations with their handles, as a row. -/
def encL (l : Listed) : List Value := [.int .i64 l.r.i, .int .i64 l.r.g, .int .i64 l.o.time, .bool l.o.ins, .int .i64 l.o.key, .int .i64 l.o.id]
def cellsL (l : List Listed) : List Value := l.flatMap encL
theorem encL_len (s : Listed) : (encL s).length = 6 := rfl
theorem cellsL_at : ∀ (l : List Listed) (i : Nat) (s : Listed) (j : Nat) (u : Value), l[i]? = some s → (encL s)[j]? = some u → (cellsL l)[i * 6 + j]? = some u
  | [], i, s, j, u, h, _ => by simp at h
  | x :: l, 0, s, j, u, h, hj => by
    simp at h; subst h
    unfold cellsL
    rw [List.flatMap_cons, Nat.zero_mul, Nat.zero_add, List.getElem?_append_left (List.getElem?_eq_some_iff.1 hj).1]; exact hj
  | x :: l, i + 1, s, j, u, h, hj => by
    have ih := cellsL_at l i s j u (by simpa using h) hj
    unfold cellsL at ih ⊢
    rw [List.flatMap_cons, List.getElem?_append_right (by rw [encL_len]; omega), encL_len]
    have e : (i + 1) * 6 + j - 6 = i * 6 + j := by omega
    rw [e]; exact ih
def TRow (w : World) (v : Value) (l : List Listed) : Prop := w.ownsRow 0 34 6 v l.length (cellsL l)
theorem TRow.cells {w : World} {v : Value} {l : List Listed} (h : TRow w v l) {i : Nat} {s : Listed} (hi : l[i]? = some s) :
    ∃ R cap, v = .slice (some ⟨R, 0, none⟩) l.length cap ∧ R < w.heap.size ∧ ∀ j u, (encL s)[j]? = some u → w.cell? ⟨R, i * 6 + j, none⟩ = some u := by
  have hlt := (List.getElem?_eq_some_iff.1 hi).1
  obtain ⟨hlen, ⟨rfl, h0⟩ | ⟨R, cap, cur, rfl, _, hb, hle, hm, hsz, htake⟩⟩ := h
  · omega
  · refine ⟨R, cap, rfl, lt_of_block hb, fun j u hj => ?_⟩
    have hc := cellsL_at l i s j u hi hj
    rw [← htake, List.getElem?_take] at hc
    split at hc
    · simp [World.cell?, hb]
      simpa using hc
    · cases hc
theorem TRow.len {w : World} {v : Value} {l : List Listed} (h : TRow w v l) : ∃ A cap, v = .slice A l.length cap := by
  rcases h.2 with ⟨rfl, h0⟩ | ⟨R, cap, cur, rfl, _⟩
  · exact ⟨none, 0, by rw [h0]⟩
  · exact ⟨_, _, rfl⟩
theorem TRow.keep {S : Nat → Prop} {w w' : World} {v : Value} {l : List Listed} (h : TRow w v l) (hc : Chg S w w') (hs : ∀ k, v.ownBlock = some k → ¬ S k) : TRow w' v l := row_chg h hc hs
theorem TRow.below {w w' : World} {v : Value} {l : List Listed} (h : TRow w v l) (hb : Below w.heap.size w w') : TRow w' v l := row_chg h (Chg.of_below (S := fun _ => False) hb) (fun _ _ h => h)
theorem info34 : (Try.prog.info? 34).map (fun i => (i.zero, i.size, i.bytes)) = some (some (aggL listed0), 6, 48) := by kernel_rfl

structure Act where
  kind : Int
  place : Int
  told : Bool
  x : Listed
def encA (a : Act) : List Value := [.int .i64 a.kind, .int .i64 a.place, .bool a.told, .int .i64 a.x.r.i, .int .i64 a.x.r.g, .int .i64 a.x.o.time, .bool a.x.o.ins, .int .i64 a.x.o.key, .int .i64 a.x.o.id]
/-- Acts, as they came in. -/
def Acts (w : World) (A : Option Addr) (l : List Act) : Prop := ∀ (i : Nat) (a : Act), l[i]? = some a → ∃ ad : Addr, A = some ad ∧ w.cell? (ad.add (i * 9)) = some (.int .i64 a.kind) ∧
  (∀ j u, (encA a)[j]? = some u → w.cell? ⟨(ad.add (i * 9)).block, (ad.add (i * 9)).off + j, none⟩ = some u) ∧ (ad.add (i * 9)).block < w.heap.size
theorem cell_of {w w' : World} {p : Addr} {v : Value} {N : Nat} (h : w.cell? p = some v) (hb : Below N w w') (hp : p.block < N) : w'.cell? p = some v := (hb.cell hp).trans h
theorem Acts.below {w w' : World} {A : Option Addr} {l : List Act} (h : Acts w A l) (hb : Below w.heap.size w w') : Acts w' A l := by
  intro i a ha
  obtain ⟨ad, e, h0, h1, h2⟩ := h i a ha
  exact ⟨ad, e, cell_of h0 hb h2, fun j u hu => cell_of (h1 j u hu) hb h2, Nat.lt_of_lt_of_le h2 hb.size⟩

end Go.Proofs.Ytccfjjaljckinaa.Tag
