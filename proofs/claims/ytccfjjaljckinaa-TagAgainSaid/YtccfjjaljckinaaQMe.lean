/- Tables and their document, part Me of this seat's texts: plain facts and walks. No conditions. -/
import Derived.Test.YtccfjjaljckinaaQMd
import Derived.Deep.QuietTactic
import Derived.BigQuiet
import Derived.Deep.RegionWith
/- The document's table: one lives again. No conditions. -/
namespace Go.Proofs.Ytccfjjaljckinaa.Tag
open Go.RowKit Go.Lib Go.Proofs.Ytccfjjaljckinaa.Mem Go.Proofs.Ytccfjjaljckinaa.IMap Go.Proofs.YtccfjjaljckinaaW.PrintWords Go.Proofs.Ytccfjjaljckinaa.PTagActs

theorem irow_at {w : World} {A : Option Addr} {n : Nat} {l : List Int} (h : Kd.C (Kd.int .i64) w A n l) {i : Nat} {v : Int} (hv : l[i]? = some v) :
    ∃ ad, A = some ad ∧ w.cell? (ad.add i) = some (.int .i64 v) := by
  have hn := h.1
  have hlt := (List.getElem?_eq_some_iff.1 hv).1
  obtain ⟨ad, c, e, _, hK, hc⟩ := Kd.C_get h 0 (i : Int) (by omega) (by omega)
  rw [Int.toNat_natCast] at hK hc
  have hx : l.getD i 0 = v := by simp [List.getD, hv]
  rw [hx] at hK
  have hK' : c = [.int .i64 v] := hK
  subst hK'
  have := hc 0 _ rfl
  refine ⟨ad, e, ?_⟩
  have e1 : i * (Kd.int .i64).sz + 0 = i := by show i * 1 + 0 = i; omega
  rw [e1] at this
  exact this

set_option maxRecDepth 100000 in
set_option maxHeartbeats 8000000 in
theorem rrevive_may {w : World} {S : Nat → Prop} {D : Nat} {r : RTab} (h : RefAt w S D r) (hl : r.l.length ≤ 1000000) {i g t key id : Int} {ins : Bool} {M : Int} (hM : rmay r t = M) (h0 : M ≠ 0) :
    Calls Try.prog 40 #[.pointer (some ⟨D, 0, none⟩), .agg #[.int .i64 i, .int .i64 g, .int .i64 t, .bool ins, .int .i64 key, .int .i64 id]] w fun e w' => e = .returned (.int .i64 M) ∧ Below w.heap.size w w' := by
  have t1 : (M == 0) = false := beq_eq_false_iff_ne.2 h0
  have t2 : (M != 0) = true := by rw [bne, t1]; rfl
  have hR := h
  obtain ⟨A1, c1, A2, c2, hb, h1, h2, h3, h4, h5⟩ := h
  have HR := Lib.hid hR
  have HD := Lib.hid hb
  have H1 := Lib.hid h1
  have H3 := Lib.hid h3
  have H4 := Lib.hid h4
  have H5 := Lib.hid h5
  have H2 := Lib.hid h2
  have HL := Lib.hid hl
  have HLt := Lib.hid hb.lt
  have HM := Lib.hid hM
  have hu32 := Try.underlying32
  have hu34 := Try.underlying34
  have hu30 := Try.underlying30
  have hu28 := Try.underlying28
  clear hb h1 h2 h3 h4 h5 hl hM hR
  go_enter Try.func40, Try.ntmps40
  go_wp2_with fail
  refine gw (fun wa hwa => ?_)
  have HBa : Hid (Below w.heap.size w wa) := Lib.hid (by rw [← hwa]; exact (Below.refl _ _).alloc (Nat.le_refl _) _)
  have HX : Hid (Blk wa w.heap.size #[.int .i64 i, .int .i64 g, .int .i64 t, .bool ins, .int .i64 key, .int .i64 id] 34) := Lib.hid (by rw [← hwa]; exact Blk.new _ _ _)
  clear hwa
  refine (rmayAt (HR.out.below HBa.out) HL.out t).mono ?_
  rintro e wb ⟨rfl, hb⟩
  rw [HM.out]
  have HBw : Hid (Below w.heap.size w wb) := Lib.hid (btrans HBa.out hb)
  have HXb := Lib.hid (HX.out.below hb)
  have HDb := Lib.hid (HD.out.below HBw.out)
  have H3b := Lib.hid (Kd.F_below H3.out HBw.out)
  have H4b := Lib.hid (Kd.F_below H4.out HBw.out)
  clear HBa HX hb
  go_wp2_with fail
  go_ret
  exact ⟨rfl, HBw.out⟩

set_option maxRecDepth 100000 in
set_option maxHeartbeats 8000000 in
theorem rrevive_neg {w : World} {S : Nat → Prop} {D : Nat} {r : RTab} (h : RefAt w S D r) (hl : r.l.length ≤ 1000000) {i g t key id : Int} {ins : Bool} {M : Int} (hM : rmay r t = M) (h0 : M = 0) (hi : i < 0) :
    Calls Try.prog 40 #[.pointer (some ⟨D, 0, none⟩), .agg #[.int .i64 i, .int .i64 g, .int .i64 t, .bool ins, .int .i64 key, .int .i64 id]] w fun e w' => e = .returned (.int .i64 13) ∧ Below w.heap.size w w' := by
  subst h0
  have t1 : decide (i < 0) = true := decide_eq_true hi
  have hR := h
  obtain ⟨A1, c1, A2, c2, hb, h1, h2, h3, h4, h5⟩ := h
  have HR := Lib.hid hR
  have HD := Lib.hid hb
  have H1 := Lib.hid h1
  have H3 := Lib.hid h3
  have H4 := Lib.hid h4
  have H5 := Lib.hid h5
  have H2 := Lib.hid h2
  have HL := Lib.hid hl
  have HLt := Lib.hid hb.lt
  have HM := Lib.hid hM
  have hu32 := Try.underlying32
  have hu34 := Try.underlying34
  have hu30 := Try.underlying30
  have hu28 := Try.underlying28
  clear hb h1 h2 h3 h4 h5 hl hM hR
  go_enter Try.func40, Try.ntmps40
  go_wp2_with fail
  refine gw (fun wa hwa => ?_)
  have HBa : Hid (Below w.heap.size w wa) := Lib.hid (by rw [← hwa]; exact (Below.refl _ _).alloc (Nat.le_refl _) _)
  have HX : Hid (Blk wa w.heap.size #[.int .i64 i, .int .i64 g, .int .i64 t, .bool ins, .int .i64 key, .int .i64 id] 34) := Lib.hid (by rw [← hwa]; exact Blk.new _ _ _)
  clear hwa
  refine (rmayAt (HR.out.below HBa.out) HL.out t).mono ?_
  rintro e wb ⟨rfl, hb⟩
  rw [HM.out]
  have HBw : Hid (Below w.heap.size w wb) := Lib.hid (btrans HBa.out hb)
  have HXb := Lib.hid (HX.out.below hb)
  have HDb := Lib.hid (HD.out.below HBw.out)
  have H3b := Lib.hid (Kd.F_below H3.out HBw.out)
  have H4b := Lib.hid (Kd.F_below H4.out HBw.out)
  clear HBa HX hb
  have x0 := HXb.out.cell (j := 0) rfl
  have x1 := HXb.out.cell (j := 1) rfl
  have x2 := HXb.out.cell (j := 2) rfl
  have x3 := HXb.out.cell (j := 3) rfl
  have x4 := HXb.out.cell (j := 4) rfl
  have x5 := HXb.out.cell (j := 5) rfl
  have m1 : wb.cell? ⟨D, 1, none⟩ = some (.int .i64 r.serial) := HDb.out.cell (j := 1) rfl
  have m2 : wb.cell? ⟨D, 2, none⟩ = some (.slice A1 r.lasts.length c1) := HDb.out.cell (j := 2) rfl
  have m3 : wb.cell? ⟨D, 3, none⟩ = some (.slice A2 r.l.length c2) := HDb.out.cell (j := 3) rfl
  go_wp2_with fail
  go_quiet (fail)
  go_wp2_with fail
  go_ret
  exact ⟨rfl, bdn HBw.out _⟩

set_option maxRecDepth 100000 in
set_option maxHeartbeats 8000000 in
theorem rrevive_big {w : World} {S : Nat → Prop} {D : Nat} {r : RTab} (h : RefAt w S D r) (hl : r.l.length ≤ 1000000) {i g t key id : Int} {ins : Bool} {M : Int} (hM : rmay r t = M) (h0 : M = 0) (hi : (r.lasts.length : Int) ≤ i) :
    Calls Try.prog 40 #[.pointer (some ⟨D, 0, none⟩), .agg #[.int .i64 i, .int .i64 g, .int .i64 t, .bool ins, .int .i64 key, .int .i64 id]] w fun e w' => e = .returned (.int .i64 13) ∧ Below w.heap.size w w' := by
  subst h0
  have t1 : decide (i < 0) = false := decide_eq_false (by omega)
  have t2 : decide ((r.lasts.length : Int) ≤ i) = true := decide_eq_true hi
  have hR := h
  obtain ⟨A1, c1, A2, c2, hb, h1, h2, h3, h4, h5⟩ := h
  have HR := Lib.hid hR
  have HD := Lib.hid hb
  have H1 := Lib.hid h1
  have H3 := Lib.hid h3
  have H4 := Lib.hid h4
  have H5 := Lib.hid h5
  have H2 := Lib.hid h2
  have HL := Lib.hid hl
  have HLt := Lib.hid hb.lt
  have HM := Lib.hid hM
  have hu32 := Try.underlying32
  have hu34 := Try.underlying34
  have hu30 := Try.underlying30
  have hu28 := Try.underlying28
  clear hb h1 h2 h3 h4 h5 hl hM hR
  go_enter Try.func40, Try.ntmps40
  go_wp2_with fail
  refine gw (fun wa hwa => ?_)
  have HBa : Hid (Below w.heap.size w wa) := Lib.hid (by rw [← hwa]; exact (Below.refl _ _).alloc (Nat.le_refl _) _)
  have HX : Hid (Blk wa w.heap.size #[.int .i64 i, .int .i64 g, .int .i64 t, .bool ins, .int .i64 key, .int .i64 id] 34) := Lib.hid (by rw [← hwa]; exact Blk.new _ _ _)
  clear hwa
  refine (rmayAt (HR.out.below HBa.out) HL.out t).mono ?_
  rintro e wb ⟨rfl, hb⟩
  rw [HM.out]
  have HBw : Hid (Below w.heap.size w wb) := Lib.hid (btrans HBa.out hb)
  have HXb := Lib.hid (HX.out.below hb)
  have HDb := Lib.hid (HD.out.below HBw.out)
  have H3b := Lib.hid (Kd.F_below H3.out HBw.out)
  have H4b := Lib.hid (Kd.F_below H4.out HBw.out)
  clear HBa HX hb
  have x0 := HXb.out.cell (j := 0) rfl
  have x1 := HXb.out.cell (j := 1) rfl
  have x2 := HXb.out.cell (j := 2) rfl
  have x3 := HXb.out.cell (j := 3) rfl
  have x4 := HXb.out.cell (j := 4) rfl
  have x5 := HXb.out.cell (j := 5) rfl
  have m1 : wb.cell? ⟨D, 1, none⟩ = some (.int .i64 r.serial) := HDb.out.cell (j := 1) rfl
  have m2 : wb.cell? ⟨D, 2, none⟩ = some (.slice A1 r.lasts.length c1) := HDb.out.cell (j := 2) rfl
  have m3 : wb.cell? ⟨D, 3, none⟩ = some (.slice A2 r.l.length c2) := HDb.out.cell (j := 3) rfl
  go_wp2_with fail
  go_quiet (fail)
  go_wp2_with fail
  go_ret
  exact ⟨rfl, bdn HBw.out _⟩

set_option maxRecDepth 100000 in
set_option maxHeartbeats 8000000 in
theorem rrevive_slot {w : World} {S : Nat → Prop} {D : Nat} {r : RTab} (h : RefAt w S D r) (hl : r.l.length ≤ 1000000) {i g t key id : Int} {ins : Bool} {M : Int} (hM : rmay r t = M) (h0 : M = 0) {n : Nat} {v : Int} (hn : i = n) (hv : r.lasts[n]? = some v) (hs : r.l.any (fun y => y.r.i == (n : Int)) = true) :
    Calls Try.prog 40 #[.pointer (some ⟨D, 0, none⟩), .agg #[.int .i64 i, .int .i64 g, .int .i64 t, .bool ins, .int .i64 key, .int .i64 id]] w fun e w' => e = .returned (.int .i64 13) ∧ Below w.heap.size w w' := by
  subst hn
  subst h0
  have t1 : decide ((n : Int) < 0) = false := decide_eq_false (by omega)
  have t2 : decide ((r.lasts.length : Int) ≤ (n : Int)) = false := decide_eq_false (by have := (List.getElem?_eq_some_iff.1 hv).1; omega)
  have tn : decide (r.lasts.length ≤ n) = false := decide_eq_false (by have := (List.getElem?_eq_some_iff.1 hv).1; omega)
  have hi0 : (0 : Int) ≤ n := by omega
  have hiN : (n : Int) < r.lasts.length := by have := (List.getElem?_eq_some_iff.1 hv).1; omega
  have ei : (n : Int).toNat = n := by omega
  have HV := Lib.hid hv
  clear hv
  have HS := Lib.hid hs
  clear hs
  have hR := h
  obtain ⟨A1, c1, A2, c2, hb, h1, h2, h3, h4, h5⟩ := h
  have HR := Lib.hid hR
  have HD := Lib.hid hb
  have H1 := Lib.hid h1
  have H3 := Lib.hid h3
  have H4 := Lib.hid h4
  have H5 := Lib.hid h5
  have H2 := Lib.hid h2
  have HL := Lib.hid hl
  have HLt := Lib.hid hb.lt
  have HM := Lib.hid hM
  have hu32 := Try.underlying32
  have hu34 := Try.underlying34
  have hu30 := Try.underlying30
  have hu28 := Try.underlying28
  clear hb h1 h2 h3 h4 h5 hl hM hR
  go_enter Try.func40, Try.ntmps40
  go_wp2_with fail
  refine gw (fun wa hwa => ?_)
  have HBa : Hid (Below w.heap.size w wa) := Lib.hid (by rw [← hwa]; exact (Below.refl _ _).alloc (Nat.le_refl _) _)
  have HX : Hid (Blk wa w.heap.size #[.int .i64 (n : Int), .int .i64 g, .int .i64 t, .bool ins, .int .i64 key, .int .i64 id] 34) := Lib.hid (by rw [← hwa]; exact Blk.new _ _ _)
  clear hwa
  refine (rmayAt (HR.out.below HBa.out) HL.out t).mono ?_
  rintro e wb ⟨rfl, hb⟩
  rw [HM.out]
  have HBw : Hid (Below w.heap.size w wb) := Lib.hid (btrans HBa.out hb)
  have HXb := Lib.hid (HX.out.below hb)
  have HDb := Lib.hid (HD.out.below HBw.out)
  have H3b := Lib.hid (Kd.F_below H3.out HBw.out)
  have H4b := Lib.hid (Kd.F_below H4.out HBw.out)
  clear HBa HX hb
  have x0 := HXb.out.cell (j := 0) rfl
  have x1 := HXb.out.cell (j := 1) rfl
  have x2 := HXb.out.cell (j := 2) rfl
  have x3 := HXb.out.cell (j := 3) rfl
  have x4 := HXb.out.cell (j := 4) rfl
  have x5 := HXb.out.cell (j := 5) rfl
  have m1 : wb.cell? ⟨D, 1, none⟩ = some (.int .i64 r.serial) := HDb.out.cell (j := 1) rfl
  have m2 : wb.cell? ⟨D, 2, none⟩ = some (.slice A1 r.lasts.length c1) := HDb.out.cell (j := 2) rfl
  have m3 : wb.cell? ⟨D, 3, none⟩ = some (.slice A2 r.l.length c2) := HDb.out.cell (j := 3) rfl
  obtain ⟨ad1, rfl, u0⟩ := irow_at (Kd.F_now H3b.out) HV.out
  have CS : Hid (∀ q, Calls Try.prog 34 #[.slice A2 r.l.length c2, .int .i64 n] (wb.drewN q) fun e w' => e = .returned (.bool true) ∧ ∃ m, w' = (wb.drewN q).drewN m) := Lib.hid (fun q => by
    have := refSlot_ (Kd.F_now (Kd.F_drewN H4b.out q)) H2.out HL.out (n : Int)
    rw [HS.out] at this
    exact this)
  go_wp2_with fail
  go_quiet ((go_at_call 34; exact Calls.quiet_of (CS.out _)))
  go_wp2_with fail
  go_ret
  exact ⟨rfl, bdn HBw.out _⟩

set_option maxRecDepth 100000 in
set_option maxHeartbeats 8000000 in
theorem rrevive_low {w : World} {S : Nat → Prop} {D : Nat} {r : RTab} (h : RefAt w S D r) (hl : r.l.length ≤ 1000000) {i g t key id : Int} {ins : Bool} {M : Int} (hM : rmay r t = M) (h0 : M = 0) {n : Nat} {v : Int} (hn : i = n) (hv : r.lasts[n]? = some v) (hs : r.l.any (fun y => y.r.i == (n : Int)) = false) (hg : g < 1) :
    Calls Try.prog 40 #[.pointer (some ⟨D, 0, none⟩), .agg #[.int .i64 i, .int .i64 g, .int .i64 t, .bool ins, .int .i64 key, .int .i64 id]] w fun e w' => e = .returned (.int .i64 13) ∧ Below w.heap.size w w' := by
  subst hn
  subst h0
  have t1 : decide ((n : Int) < 0) = false := decide_eq_false (by omega)
  have t2 : decide ((r.lasts.length : Int) ≤ (n : Int)) = false := decide_eq_false (by have := (List.getElem?_eq_some_iff.1 hv).1; omega)
  have tn : decide (r.lasts.length ≤ n) = false := decide_eq_false (by have := (List.getElem?_eq_some_iff.1 hv).1; omega)
  have hi0 : (0 : Int) ≤ n := by omega
  have hiN : (n : Int) < r.lasts.length := by have := (List.getElem?_eq_some_iff.1 hv).1; omega
  have ei : (n : Int).toNat = n := by omega
  have HV := Lib.hid hv
  clear hv
  have HS := Lib.hid hs
  clear hs
  have t3 : decide (g < 1) = true := decide_eq_true hg
  have hR := h
  obtain ⟨A1, c1, A2, c2, hb, h1, h2, h3, h4, h5⟩ := h
  have HR := Lib.hid hR
  have HD := Lib.hid hb
  have H1 := Lib.hid h1
  have H3 := Lib.hid h3
  have H4 := Lib.hid h4
  have H5 := Lib.hid h5
  have H2 := Lib.hid h2
  have HL := Lib.hid hl
  have HLt := Lib.hid hb.lt
  have HM := Lib.hid hM
  have hu32 := Try.underlying32
  have hu34 := Try.underlying34
  have hu30 := Try.underlying30
  have hu28 := Try.underlying28
  clear hb h1 h2 h3 h4 h5 hl hM hR
  go_enter Try.func40, Try.ntmps40
  go_wp2_with fail
  refine gw (fun wa hwa => ?_)
  have HBa : Hid (Below w.heap.size w wa) := Lib.hid (by rw [← hwa]; exact (Below.refl _ _).alloc (Nat.le_refl _) _)
  have HX : Hid (Blk wa w.heap.size #[.int .i64 (n : Int), .int .i64 g, .int .i64 t, .bool ins, .int .i64 key, .int .i64 id] 34) := Lib.hid (by rw [← hwa]; exact Blk.new _ _ _)
  clear hwa
  refine (rmayAt (HR.out.below HBa.out) HL.out t).mono ?_
  rintro e wb ⟨rfl, hb⟩
  rw [HM.out]
  have HBw : Hid (Below w.heap.size w wb) := Lib.hid (btrans HBa.out hb)
  have HXb := Lib.hid (HX.out.below hb)
  have HDb := Lib.hid (HD.out.below HBw.out)
  have H3b := Lib.hid (Kd.F_below H3.out HBw.out)
  have H4b := Lib.hid (Kd.F_below H4.out HBw.out)
  clear HBa HX hb
  have x0 := HXb.out.cell (j := 0) rfl
  have x1 := HXb.out.cell (j := 1) rfl
  have x2 := HXb.out.cell (j := 2) rfl
  have x3 := HXb.out.cell (j := 3) rfl
  have x4 := HXb.out.cell (j := 4) rfl
  have x5 := HXb.out.cell (j := 5) rfl
  have m1 : wb.cell? ⟨D, 1, none⟩ = some (.int .i64 r.serial) := HDb.out.cell (j := 1) rfl
  have m2 : wb.cell? ⟨D, 2, none⟩ = some (.slice A1 r.lasts.length c1) := HDb.out.cell (j := 2) rfl
  have m3 : wb.cell? ⟨D, 3, none⟩ = some (.slice A2 r.l.length c2) := HDb.out.cell (j := 3) rfl
  obtain ⟨ad1, rfl, u0⟩ := irow_at (Kd.F_now H3b.out) HV.out
  have CS : Hid (∀ q, Calls Try.prog 34 #[.slice A2 r.l.length c2, .int .i64 n] (wb.drewN q) fun e w' => e = .returned (.bool false) ∧ ∃ m, w' = (wb.drewN q).drewN m) := Lib.hid (fun q => by
    have := refSlot_ (Kd.F_now (Kd.F_drewN H4b.out q)) H2.out HL.out (n : Int)
    rw [HS.out] at this
    exact this)
  go_wp2_with fail
  go_quiet ((go_at_call 34; exact Calls.quiet_of (CS.out _)))
  go_wp2_with fail
  go_ret
  exact ⟨rfl, bdn HBw.out _⟩

set_option maxRecDepth 100000 in
set_option maxHeartbeats 8000000 in
theorem rrevive_high {w : World} {S : Nat → Prop} {D : Nat} {r : RTab} (h : RefAt w S D r) (hl : r.l.length ≤ 1000000) {i g t key id : Int} {ins : Bool} {M : Int} (hM : rmay r t = M) (h0 : M = 0) {n : Nat} {v : Int} (hn : i = n) (hv : r.lasts[n]? = some v) (hs : r.l.any (fun y => y.r.i == (n : Int)) = false) (hg : 1 ≤ g) (hv2 : v < g) :
    Calls Try.prog 40 #[.pointer (some ⟨D, 0, none⟩), .agg #[.int .i64 i, .int .i64 g, .int .i64 t, .bool ins, .int .i64 key, .int .i64 id]] w fun e w' => e = .returned (.int .i64 13) ∧ Below w.heap.size w w' := by
  subst hn
  subst h0
  have t1 : decide ((n : Int) < 0) = false := decide_eq_false (by omega)
  have t2 : decide ((r.lasts.length : Int) ≤ (n : Int)) = false := decide_eq_false (by have := (List.getElem?_eq_some_iff.1 hv).1; omega)
  have tn : decide (r.lasts.length ≤ n) = false := decide_eq_false (by have := (List.getElem?_eq_some_iff.1 hv).1; omega)
  have hi0 : (0 : Int) ≤ n := by omega
  have hiN : (n : Int) < r.lasts.length := by have := (List.getElem?_eq_some_iff.1 hv).1; omega
  have ei : (n : Int).toNat = n := by omega
  have HV := Lib.hid hv
  clear hv
  have HS := Lib.hid hs
  clear hs
  have t3 : decide (g < 1) = false := decide_eq_false (by omega)
  have t4 : decide (v < g) = true := decide_eq_true hv2
  have hR := h
  obtain ⟨A1, c1, A2, c2, hb, h1, h2, h3, h4, h5⟩ := h
  have HR := Lib.hid hR
  have HD := Lib.hid hb
  have H1 := Lib.hid h1
  have H3 := Lib.hid h3
  have H4 := Lib.hid h4
  have H5 := Lib.hid h5
  have H2 := Lib.hid h2
  have HL := Lib.hid hl
  have HLt := Lib.hid hb.lt
  have HM := Lib.hid hM
  have hu32 := Try.underlying32
  have hu34 := Try.underlying34
  have hu30 := Try.underlying30
  have hu28 := Try.underlying28
  clear hb h1 h2 h3 h4 h5 hl hM hR
  go_enter Try.func40, Try.ntmps40
  go_wp2_with fail
  refine gw (fun wa hwa => ?_)
  have HBa : Hid (Below w.heap.size w wa) := Lib.hid (by rw [← hwa]; exact (Below.refl _ _).alloc (Nat.le_refl _) _)
  have HX : Hid (Blk wa w.heap.size #[.int .i64 (n : Int), .int .i64 g, .int .i64 t, .bool ins, .int .i64 key, .int .i64 id] 34) := Lib.hid (by rw [← hwa]; exact Blk.new _ _ _)
  clear hwa
  refine (rmayAt (HR.out.below HBa.out) HL.out t).mono ?_
  rintro e wb ⟨rfl, hb⟩
  rw [HM.out]
  have HBw : Hid (Below w.heap.size w wb) := Lib.hid (btrans HBa.out hb)
  have HXb := Lib.hid (HX.out.below hb)
  have HDb := Lib.hid (HD.out.below HBw.out)
  have H3b := Lib.hid (Kd.F_below H3.out HBw.out)
  have H4b := Lib.hid (Kd.F_below H4.out HBw.out)
  clear HBa HX hb
  have x0 := HXb.out.cell (j := 0) rfl
  have x1 := HXb.out.cell (j := 1) rfl
  have x2 := HXb.out.cell (j := 2) rfl
  have x3 := HXb.out.cell (j := 3) rfl
  have x4 := HXb.out.cell (j := 4) rfl
  have x5 := HXb.out.cell (j := 5) rfl
  have m1 : wb.cell? ⟨D, 1, none⟩ = some (.int .i64 r.serial) := HDb.out.cell (j := 1) rfl
  have m2 : wb.cell? ⟨D, 2, none⟩ = some (.slice A1 r.lasts.length c1) := HDb.out.cell (j := 2) rfl
  have m3 : wb.cell? ⟨D, 3, none⟩ = some (.slice A2 r.l.length c2) := HDb.out.cell (j := 3) rfl
  obtain ⟨ad1, rfl, u0⟩ := irow_at (Kd.F_now H3b.out) HV.out
  have CS : Hid (∀ q, Calls Try.prog 34 #[.slice A2 r.l.length c2, .int .i64 n] (wb.drewN q) fun e w' => e = .returned (.bool false) ∧ ∃ m, w' = (wb.drewN q).drewN m) := Lib.hid (fun q => by
    have := refSlot_ (Kd.F_now (Kd.F_drewN H4b.out q)) H2.out HL.out (n : Int)
    rw [HS.out] at this
    exact this)
  go_wp2_with fail
  go_quiet ((go_at_call 34; exact Calls.quiet_of (CS.out _)))
  go_wp2_with fail
  go_ret
  exact ⟨rfl, bdn HBw.out _⟩

set_option maxRecDepth 100000 in
set_option maxHeartbeats 8000000 in
theorem rrevive_idneg {w : World} {S : Nat → Prop} {D : Nat} {r : RTab} (h : RefAt w S D r) (hl : r.l.length ≤ 1000000) {i g t key id : Int} {ins : Bool} {M : Int} (hM : rmay r t = M) (h0 : M = 0) {n : Nat} {v : Int} (hn : i = n) (hv : r.lasts[n]? = some v) (hs : r.l.any (fun y => y.r.i == (n : Int)) = false) (hg : 1 ≤ g) (hv2 : g ≤ v) (hd : id < 0) :
    Calls Try.prog 40 #[.pointer (some ⟨D, 0, none⟩), .agg #[.int .i64 i, .int .i64 g, .int .i64 t, .bool ins, .int .i64 key, .int .i64 id]] w fun e w' => e = .returned (.int .i64 2) ∧ Below w.heap.size w w' := by
  subst hn
  subst h0
  have t1 : decide ((n : Int) < 0) = false := decide_eq_false (by omega)
  have t2 : decide ((r.lasts.length : Int) ≤ (n : Int)) = false := decide_eq_false (by have := (List.getElem?_eq_some_iff.1 hv).1; omega)
  have tn : decide (r.lasts.length ≤ n) = false := decide_eq_false (by have := (List.getElem?_eq_some_iff.1 hv).1; omega)
  have hi0 : (0 : Int) ≤ n := by omega
  have hiN : (n : Int) < r.lasts.length := by have := (List.getElem?_eq_some_iff.1 hv).1; omega
  have ei : (n : Int).toNat = n := by omega
  have HV := Lib.hid hv
  clear hv
  have HS := Lib.hid hs
  clear hs
  have t3 : decide (g < 1) = false := decide_eq_false (by omega)
  have t4 : decide (v < g) = false := decide_eq_false (by omega)
  have t5 : decide (id < 0) = true := decide_eq_true hd
  have hR := h
  obtain ⟨A1, c1, A2, c2, hb, h1, h2, h3, h4, h5⟩ := h
  have HR := Lib.hid hR
  have HD := Lib.hid hb
  have H1 := Lib.hid h1
  have H3 := Lib.hid h3
  have H4 := Lib.hid h4
  have H5 := Lib.hid h5
  have H2 := Lib.hid h2
  have HL := Lib.hid hl
  have HLt := Lib.hid hb.lt
  have HM := Lib.hid hM
  have hu32 := Try.underlying32
  have hu34 := Try.underlying34
  have hu30 := Try.underlying30
  have hu28 := Try.underlying28
  clear hb h1 h2 h3 h4 h5 hl hM hR
  go_enter Try.func40, Try.ntmps40
  go_wp2_with fail
  refine gw (fun wa hwa => ?_)
  have HBa : Hid (Below w.heap.size w wa) := Lib.hid (by rw [← hwa]; exact (Below.refl _ _).alloc (Nat.le_refl _) _)
  have HX : Hid (Blk wa w.heap.size #[.int .i64 (n : Int), .int .i64 g, .int .i64 t, .bool ins, .int .i64 key, .int .i64 id] 34) := Lib.hid (by rw [← hwa]; exact Blk.new _ _ _)
  clear hwa
  refine (rmayAt (HR.out.below HBa.out) HL.out t).mono ?_
  rintro e wb ⟨rfl, hb⟩
  rw [HM.out]
  have HBw : Hid (Below w.heap.size w wb) := Lib.hid (btrans HBa.out hb)
  have HXb := Lib.hid (HX.out.below hb)
  have HDb := Lib.hid (HD.out.below HBw.out)
  have H3b := Lib.hid (Kd.F_below H3.out HBw.out)
  have H4b := Lib.hid (Kd.F_below H4.out HBw.out)
  clear HBa HX hb
  have x0 := HXb.out.cell (j := 0) rfl
  have x1 := HXb.out.cell (j := 1) rfl
  have x2 := HXb.out.cell (j := 2) rfl
  have x3 := HXb.out.cell (j := 3) rfl
  have x4 := HXb.out.cell (j := 4) rfl
  have x5 := HXb.out.cell (j := 5) rfl
  have m1 : wb.cell? ⟨D, 1, none⟩ = some (.int .i64 r.serial) := HDb.out.cell (j := 1) rfl
  have m2 : wb.cell? ⟨D, 2, none⟩ = some (.slice A1 r.lasts.length c1) := HDb.out.cell (j := 2) rfl
  have m3 : wb.cell? ⟨D, 3, none⟩ = some (.slice A2 r.l.length c2) := HDb.out.cell (j := 3) rfl
  obtain ⟨ad1, rfl, u0⟩ := irow_at (Kd.F_now H3b.out) HV.out
  have CS : Hid (∀ q, Calls Try.prog 34 #[.slice A2 r.l.length c2, .int .i64 n] (wb.drewN q) fun e w' => e = .returned (.bool false) ∧ ∃ m, w' = (wb.drewN q).drewN m) := Lib.hid (fun q => by
    have := refSlot_ (Kd.F_now (Kd.F_drewN H4b.out q)) H2.out HL.out (n : Int)
    rw [HS.out] at this
    exact this)
  go_wp2_with fail
  go_quiet ((go_at_call 34; exact Calls.quiet_of (CS.out _)))
  refine gwE (fun wc hwc => ?_)
  obtain ⟨qc, hqc⟩ : ∃ q, wc = wb.drewN q := ⟨_, hwc.symm⟩
  have HBc : Hid (Below w.heap.size w wc) := Lib.hid (by rw [hqc]; exact bdn HBw.out _)
  have HXc : Hid (Blk wc w.heap.size _ 34) := Lib.hid (by rw [hqc]; exact HXb.out.drewN _)
  have HDc : Hid (Blk wc D _ 49) := Lib.hid (by rw [hqc]; exact HDb.out.drewN _)
  have H3c : Hid (IRow wc S (some ad1) r.lasts) := Lib.hid (by rw [hqc]; exact Kd.F_drewN H3b.out _)
  have H4c : Hid (LRow wc S A2 r.l) := Lib.hid (by rw [hqc]; exact Kd.F_drewN H4b.out _)
  clear hqc hwc x0 x1 x2 x3 x4 x5 m1 m2 m3 u0 CS HBw HXb HDb H3b H4b
  have x0 := HXc.out.cell (j := 0) rfl
  have x1 := HXc.out.cell (j := 1) rfl
  have x2 := HXc.out.cell (j := 2) rfl
  have x3 := HXc.out.cell (j := 3) rfl
  have x4 := HXc.out.cell (j := 4) rfl
  have x5 := HXc.out.cell (j := 5) rfl
  have m1 : wc.cell? ⟨D, 1, none⟩ = some (.int .i64 r.serial) := HDc.out.cell (j := 1) rfl
  have m2 : wc.cell? ⟨D, 2, none⟩ = some (.slice (some ad1) r.lasts.length c1) := HDc.out.cell (j := 2) rfl
  have m3 : wc.cell? ⟨D, 3, none⟩ = some (.slice A2 r.l.length c2) := HDc.out.cell (j := 3) rfl
  go_wp2_with fail
  go_ret
  exact ⟨rfl, by first | exact HBc.out | exact bdn HBc.out _⟩

set_option maxRecDepth 100000 in
set_option maxHeartbeats 8000000 in
theorem rrevive_idbig {w : World} {S : Nat → Prop} {D : Nat} {r : RTab} (h : RefAt w S D r) (hl : r.l.length ≤ 1000000) {i g t key id : Int} {ins : Bool} {M : Int} (hM : rmay r t = M) (h0 : M = 0) {n : Nat} {v : Int} (hn : i = n) (hv : r.lasts[n]? = some v) (hs : r.l.any (fun y => y.r.i == (n : Int)) = false) (hg : 1 ≤ g) (hv2 : g ≤ v) (hd : 0 ≤ id) (hd2 : r.serial ≤ id) :
    Calls Try.prog 40 #[.pointer (some ⟨D, 0, none⟩), .agg #[.int .i64 i, .int .i64 g, .int .i64 t, .bool ins, .int .i64 key, .int .i64 id]] w fun e w' => e = .returned (.int .i64 2) ∧ Below w.heap.size w w' := by
  subst hn
  subst h0
  have t1 : decide ((n : Int) < 0) = false := decide_eq_false (by omega)
  have t2 : decide ((r.lasts.length : Int) ≤ (n : Int)) = false := decide_eq_false (by have := (List.getElem?_eq_some_iff.1 hv).1; omega)
  have tn : decide (r.lasts.length ≤ n) = false := decide_eq_false (by have := (List.getElem?_eq_some_iff.1 hv).1; omega)
  have hi0 : (0 : Int) ≤ n := by omega
  have hiN : (n : Int) < r.lasts.length := by have := (List.getElem?_eq_some_iff.1 hv).1; omega
  have ei : (n : Int).toNat = n := by omega
  have HV := Lib.hid hv
  clear hv
  have HS := Lib.hid hs
  clear hs
  have t3 : decide (g < 1) = false := decide_eq_false (by omega)
  have t4 : decide (v < g) = false := decide_eq_false (by omega)
  have t5 : decide (id < 0) = false := decide_eq_false (by omega)
  have t6 : decide (r.serial ≤ id) = true := decide_eq_true hd2
  have hR := h
  obtain ⟨A1, c1, A2, c2, hb, h1, h2, h3, h4, h5⟩ := h
  have HR := Lib.hid hR
  have HD := Lib.hid hb
  have H1 := Lib.hid h1
  have H3 := Lib.hid h3
  have H4 := Lib.hid h4
  have H5 := Lib.hid h5
  have H2 := Lib.hid h2
  have HL := Lib.hid hl
  have HLt := Lib.hid hb.lt
  have HM := Lib.hid hM
  have hu32 := Try.underlying32
  have hu34 := Try.underlying34
  have hu30 := Try.underlying30
  have hu28 := Try.underlying28
  clear hb h1 h2 h3 h4 h5 hl hM hR
  go_enter Try.func40, Try.ntmps40
  go_wp2_with fail
  refine gw (fun wa hwa => ?_)
  have HBa : Hid (Below w.heap.size w wa) := Lib.hid (by rw [← hwa]; exact (Below.refl _ _).alloc (Nat.le_refl _) _)
  have HX : Hid (Blk wa w.heap.size #[.int .i64 (n : Int), .int .i64 g, .int .i64 t, .bool ins, .int .i64 key, .int .i64 id] 34) := Lib.hid (by rw [← hwa]; exact Blk.new _ _ _)
  clear hwa
  refine (rmayAt (HR.out.below HBa.out) HL.out t).mono ?_
  rintro e wb ⟨rfl, hb⟩
  rw [HM.out]
  have HBw : Hid (Below w.heap.size w wb) := Lib.hid (btrans HBa.out hb)
  have HXb := Lib.hid (HX.out.below hb)
  have HDb := Lib.hid (HD.out.below HBw.out)
  have H3b := Lib.hid (Kd.F_below H3.out HBw.out)
  have H4b := Lib.hid (Kd.F_below H4.out HBw.out)
  clear HBa HX hb
  have x0 := HXb.out.cell (j := 0) rfl
  have x1 := HXb.out.cell (j := 1) rfl
  have x2 := HXb.out.cell (j := 2) rfl
  have x3 := HXb.out.cell (j := 3) rfl
  have x4 := HXb.out.cell (j := 4) rfl
  have x5 := HXb.out.cell (j := 5) rfl
  have m1 : wb.cell? ⟨D, 1, none⟩ = some (.int .i64 r.serial) := HDb.out.cell (j := 1) rfl
  have m2 : wb.cell? ⟨D, 2, none⟩ = some (.slice A1 r.lasts.length c1) := HDb.out.cell (j := 2) rfl
  have m3 : wb.cell? ⟨D, 3, none⟩ = some (.slice A2 r.l.length c2) := HDb.out.cell (j := 3) rfl
  obtain ⟨ad1, rfl, u0⟩ := irow_at (Kd.F_now H3b.out) HV.out
  have CS : Hid (∀ q, Calls Try.prog 34 #[.slice A2 r.l.length c2, .int .i64 n] (wb.drewN q) fun e w' => e = .returned (.bool false) ∧ ∃ m, w' = (wb.drewN q).drewN m) := Lib.hid (fun q => by
    have := refSlot_ (Kd.F_now (Kd.F_drewN H4b.out q)) H2.out HL.out (n : Int)
    rw [HS.out] at this
    exact this)
  go_wp2_with fail
  go_quiet ((go_at_call 34; exact Calls.quiet_of (CS.out _)))
  refine gwE (fun wc hwc => ?_)
  obtain ⟨qc, hqc⟩ : ∃ q, wc = wb.drewN q := ⟨_, hwc.symm⟩
  have HBc : Hid (Below w.heap.size w wc) := Lib.hid (by rw [hqc]; exact bdn HBw.out _)
  have HXc : Hid (Blk wc w.heap.size _ 34) := Lib.hid (by rw [hqc]; exact HXb.out.drewN _)
  have HDc : Hid (Blk wc D _ 49) := Lib.hid (by rw [hqc]; exact HDb.out.drewN _)
  have H3c : Hid (IRow wc S (some ad1) r.lasts) := Lib.hid (by rw [hqc]; exact Kd.F_drewN H3b.out _)
  have H4c : Hid (LRow wc S A2 r.l) := Lib.hid (by rw [hqc]; exact Kd.F_drewN H4b.out _)
  clear hqc hwc x0 x1 x2 x3 x4 x5 m1 m2 m3 u0 CS HBw HXb HDb H3b H4b
  have x0 := HXc.out.cell (j := 0) rfl
  have x1 := HXc.out.cell (j := 1) rfl
  have x2 := HXc.out.cell (j := 2) rfl
  have x3 := HXc.out.cell (j := 3) rfl
  have x4 := HXc.out.cell (j := 4) rfl
  have x5 := HXc.out.cell (j := 5) rfl
  have m1 : wc.cell? ⟨D, 1, none⟩ = some (.int .i64 r.serial) := HDc.out.cell (j := 1) rfl
  have m2 : wc.cell? ⟨D, 2, none⟩ = some (.slice (some ad1) r.lasts.length c1) := HDc.out.cell (j := 2) rfl
  have m3 : wc.cell? ⟨D, 3, none⟩ = some (.slice A2 r.l.length c2) := HDc.out.cell (j := 3) rfl
  go_wp2_with fail
  go_ret
  exact ⟨rfl, by first | exact HBc.out | exact bdn HBc.out _⟩

set_option maxRecDepth 100000 in
set_option maxHeartbeats 8000000 in
theorem rrevive_idany {w : World} {S : Nat → Prop} {D : Nat} {r : RTab} (h : RefAt w S D r) (hl : r.l.length ≤ 1000000) {i g t key id : Int} {ins : Bool} {M : Int} (hM : rmay r t = M) (h0 : M = 0) {n : Nat} {v : Int} (hn : i = n) (hv : r.lasts[n]? = some v) (hs : r.l.any (fun y => y.r.i == (n : Int)) = false) (hg : 1 ≤ g) (hv2 : g ≤ v) (hd : 0 ≤ id) (hd2 : id < r.serial) (hI : r.l.any (fun y => y.o.id == id) = true)  :
    Calls Try.prog 40 #[.pointer (some ⟨D, 0, none⟩), .agg #[.int .i64 i, .int .i64 g, .int .i64 t, .bool ins, .int .i64 key, .int .i64 id]] w fun e w' => e = .returned (.int .i64 2) ∧ Below w.heap.size w w' := by
  subst hn
  subst h0
  have t1 : decide ((n : Int) < 0) = false := decide_eq_false (by omega)
  have t2 : decide ((r.lasts.length : Int) ≤ (n : Int)) = false := decide_eq_false (by have := (List.getElem?_eq_some_iff.1 hv).1; omega)
  have tn : decide (r.lasts.length ≤ n) = false := decide_eq_false (by have := (List.getElem?_eq_some_iff.1 hv).1; omega)
  have hi0 : (0 : Int) ≤ n := by omega
  have hiN : (n : Int) < r.lasts.length := by have := (List.getElem?_eq_some_iff.1 hv).1; omega
  have ei : (n : Int).toNat = n := by omega
  have HV := Lib.hid hv
  clear hv
  have HS := Lib.hid hs
  clear hs
  have t3 : decide (g < 1) = false := decide_eq_false (by omega)
  have t4 : decide (v < g) = false := decide_eq_false (by omega)
  have t5 : decide (id < 0) = false := decide_eq_false (by omega)
  have t6 : decide (r.serial ≤ id) = false := decide_eq_false (by omega)
  have HI := Lib.hid hI
  clear hI
  have hR := h
  obtain ⟨A1, c1, A2, c2, hb, h1, h2, h3, h4, h5⟩ := h
  have HR := Lib.hid hR
  have HD := Lib.hid hb
  have H1 := Lib.hid h1
  have H3 := Lib.hid h3
  have H4 := Lib.hid h4
  have H5 := Lib.hid h5
  have H2 := Lib.hid h2
  have HL := Lib.hid hl
  have HLt := Lib.hid hb.lt
  have HM := Lib.hid hM
  have hu32 := Try.underlying32
  have hu34 := Try.underlying34
  have hu30 := Try.underlying30
  have hu28 := Try.underlying28
  clear hb h1 h2 h3 h4 h5 hl hM hR
  go_enter Try.func40, Try.ntmps40
  go_wp2_with fail
  refine gw (fun wa hwa => ?_)
  have HBa : Hid (Below w.heap.size w wa) := Lib.hid (by rw [← hwa]; exact (Below.refl _ _).alloc (Nat.le_refl _) _)
  have HX : Hid (Blk wa w.heap.size #[.int .i64 (n : Int), .int .i64 g, .int .i64 t, .bool ins, .int .i64 key, .int .i64 id] 34) := Lib.hid (by rw [← hwa]; exact Blk.new _ _ _)
  clear hwa
  refine (rmayAt (HR.out.below HBa.out) HL.out t).mono ?_
  rintro e wb ⟨rfl, hb⟩
  rw [HM.out]
  have HBw : Hid (Below w.heap.size w wb) := Lib.hid (btrans HBa.out hb)
  have HXb := Lib.hid (HX.out.below hb)
  have HDb := Lib.hid (HD.out.below HBw.out)
  have H3b := Lib.hid (Kd.F_below H3.out HBw.out)
  have H4b := Lib.hid (Kd.F_below H4.out HBw.out)
  clear HBa HX hb
  have x0 := HXb.out.cell (j := 0) rfl
  have x1 := HXb.out.cell (j := 1) rfl
  have x2 := HXb.out.cell (j := 2) rfl
  have x3 := HXb.out.cell (j := 3) rfl
  have x4 := HXb.out.cell (j := 4) rfl
  have x5 := HXb.out.cell (j := 5) rfl
  have m1 : wb.cell? ⟨D, 1, none⟩ = some (.int .i64 r.serial) := HDb.out.cell (j := 1) rfl
  have m2 : wb.cell? ⟨D, 2, none⟩ = some (.slice A1 r.lasts.length c1) := HDb.out.cell (j := 2) rfl
  have m3 : wb.cell? ⟨D, 3, none⟩ = some (.slice A2 r.l.length c2) := HDb.out.cell (j := 3) rfl
  obtain ⟨ad1, rfl, u0⟩ := irow_at (Kd.F_now H3b.out) HV.out
  have CS : Hid (∀ q, Calls Try.prog 34 #[.slice A2 r.l.length c2, .int .i64 n] (wb.drewN q) fun e w' => e = .returned (.bool false) ∧ ∃ m, w' = (wb.drewN q).drewN m) := Lib.hid (fun q => by
    have := refSlot_ (Kd.F_now (Kd.F_drewN H4b.out q)) H2.out HL.out (n : Int)
    rw [HS.out] at this
    exact this)
  go_wp2_with fail
  go_quiet ((go_at_call 34; exact Calls.quiet_of (CS.out _)))
  refine gwE (fun wc hwc => ?_)
  obtain ⟨qc, hqc⟩ : ∃ q, wc = wb.drewN q := ⟨_, hwc.symm⟩
  have HBc : Hid (Below w.heap.size w wc) := Lib.hid (by rw [hqc]; exact bdn HBw.out _)
  have HXc : Hid (Blk wc w.heap.size _ 34) := Lib.hid (by rw [hqc]; exact HXb.out.drewN _)
  have HDc : Hid (Blk wc D _ 49) := Lib.hid (by rw [hqc]; exact HDb.out.drewN _)
  have H3c : Hid (IRow wc S (some ad1) r.lasts) := Lib.hid (by rw [hqc]; exact Kd.F_drewN H3b.out _)
  have H4c : Hid (LRow wc S A2 r.l) := Lib.hid (by rw [hqc]; exact Kd.F_drewN H4b.out _)
  clear hqc hwc x0 x1 x2 x3 x4 x5 m1 m2 m3 u0 CS HBw HXb HDb H3b H4b
  have x0 := HXc.out.cell (j := 0) rfl
  have x1 := HXc.out.cell (j := 1) rfl
  have x2 := HXc.out.cell (j := 2) rfl
  have x3 := HXc.out.cell (j := 3) rfl
  have x4 := HXc.out.cell (j := 4) rfl
  have x5 := HXc.out.cell (j := 5) rfl
  have m1 : wc.cell? ⟨D, 1, none⟩ = some (.int .i64 r.serial) := HDc.out.cell (j := 1) rfl
  have m2 : wc.cell? ⟨D, 2, none⟩ = some (.slice (some ad1) r.lasts.length c1) := HDc.out.cell (j := 2) rfl
  have m3 : wc.cell? ⟨D, 3, none⟩ = some (.slice A2 r.l.length c2) := HDc.out.cell (j := 3) rfl
  go_wp2_with fail
  refine (refID_ (Kd.F_now H4c.out) H2.out HL.out id).mono ?_
  rintro e w6 ⟨rfl, q6, rfl⟩
  rw [HI.out]
  go_wp2_with fail
  go_ret
  exact ⟨rfl, by first | exact HBc.out | exact bdn HBc.out _⟩

set_option maxRecDepth 100000 in
set_option maxHeartbeats 8000000 in
theorem rrevive_key {w : World} {S : Nat → Prop} {D : Nat} {r : RTab} (h : RefAt w S D r) (hl : r.l.length ≤ 1000000) {i g t key id : Int} {ins : Bool} {M : Int} (hM : rmay r t = M) (h0 : M = 0) {n : Nat} {v : Int} (hn : i = n) (hv : r.lasts[n]? = some v) (hs : r.l.any (fun y => y.r.i == (n : Int)) = false) (hg : 1 ≤ g) (hv2 : g ≤ v) (hd : 0 ≤ id) (hd2 : id < r.serial) (hI : r.l.any (fun y => y.o.id == id) = false) (hi : ins = false) (hk : key ≠ 0) :
    Calls Try.prog 40 #[.pointer (some ⟨D, 0, none⟩), .agg #[.int .i64 i, .int .i64 g, .int .i64 t, .bool ins, .int .i64 key, .int .i64 id]] w fun e w' => e = .returned (.int .i64 2) ∧ Below w.heap.size w w' := by
  subst hn
  subst h0
  have t1 : decide ((n : Int) < 0) = false := decide_eq_false (by omega)
  have t2 : decide ((r.lasts.length : Int) ≤ (n : Int)) = false := decide_eq_false (by have := (List.getElem?_eq_some_iff.1 hv).1; omega)
  have tn : decide (r.lasts.length ≤ n) = false := decide_eq_false (by have := (List.getElem?_eq_some_iff.1 hv).1; omega)
  have hi0 : (0 : Int) ≤ n := by omega
  have hiN : (n : Int) < r.lasts.length := by have := (List.getElem?_eq_some_iff.1 hv).1; omega
  have ei : (n : Int).toNat = n := by omega
  have HV := Lib.hid hv
  clear hv
  have HS := Lib.hid hs
  clear hs
  have t3 : decide (g < 1) = false := decide_eq_false (by omega)
  have t4 : decide (v < g) = false := decide_eq_false (by omega)
  have t5 : decide (id < 0) = false := decide_eq_false (by omega)
  have t6 : decide (r.serial ≤ id) = false := decide_eq_false (by omega)
  have HI := Lib.hid hI
  clear hI
  subst hi
  have t7 : (key == 0) = false := beq_eq_false_iff_ne.2 hk
  have t8 : (key != 0) = true := by rw [bne, t7]; rfl
  have hR := h
  obtain ⟨A1, c1, A2, c2, hb, h1, h2, h3, h4, h5⟩ := h
  have HR := Lib.hid hR
  have HD := Lib.hid hb
  have H1 := Lib.hid h1
  have H3 := Lib.hid h3
  have H4 := Lib.hid h4
  have H5 := Lib.hid h5
  have H2 := Lib.hid h2
  have HL := Lib.hid hl
  have HLt := Lib.hid hb.lt
  have HM := Lib.hid hM
  have hu32 := Try.underlying32
  have hu34 := Try.underlying34
  have hu30 := Try.underlying30
  have hu28 := Try.underlying28
  clear hb h1 h2 h3 h4 h5 hl hM hR
  go_enter Try.func40, Try.ntmps40
  go_wp2_with fail
  refine gw (fun wa hwa => ?_)
  have HBa : Hid (Below w.heap.size w wa) := Lib.hid (by rw [← hwa]; exact (Below.refl _ _).alloc (Nat.le_refl _) _)
  have HX : Hid (Blk wa w.heap.size #[.int .i64 (n : Int), .int .i64 g, .int .i64 t, .bool false, .int .i64 key, .int .i64 id] 34) := Lib.hid (by rw [← hwa]; exact Blk.new _ _ _)
  clear hwa
  refine (rmayAt (HR.out.below HBa.out) HL.out t).mono ?_
  rintro e wb ⟨rfl, hb⟩
  rw [HM.out]
  have HBw : Hid (Below w.heap.size w wb) := Lib.hid (btrans HBa.out hb)
  have HXb := Lib.hid (HX.out.below hb)
  have HDb := Lib.hid (HD.out.below HBw.out)
  have H3b := Lib.hid (Kd.F_below H3.out HBw.out)
  have H4b := Lib.hid (Kd.F_below H4.out HBw.out)
  clear HBa HX hb
  have x0 := HXb.out.cell (j := 0) rfl
  have x1 := HXb.out.cell (j := 1) rfl
  have x2 := HXb.out.cell (j := 2) rfl
  have x3 := HXb.out.cell (j := 3) rfl
  have x4 := HXb.out.cell (j := 4) rfl
  have x5 := HXb.out.cell (j := 5) rfl
  have m1 : wb.cell? ⟨D, 1, none⟩ = some (.int .i64 r.serial) := HDb.out.cell (j := 1) rfl
  have m2 : wb.cell? ⟨D, 2, none⟩ = some (.slice A1 r.lasts.length c1) := HDb.out.cell (j := 2) rfl
  have m3 : wb.cell? ⟨D, 3, none⟩ = some (.slice A2 r.l.length c2) := HDb.out.cell (j := 3) rfl
  obtain ⟨ad1, rfl, u0⟩ := irow_at (Kd.F_now H3b.out) HV.out
  have CS : Hid (∀ q, Calls Try.prog 34 #[.slice A2 r.l.length c2, .int .i64 n] (wb.drewN q) fun e w' => e = .returned (.bool false) ∧ ∃ m, w' = (wb.drewN q).drewN m) := Lib.hid (fun q => by
    have := refSlot_ (Kd.F_now (Kd.F_drewN H4b.out q)) H2.out HL.out (n : Int)
    rw [HS.out] at this
    exact this)
  go_wp2_with fail
  go_quiet ((go_at_call 34; exact Calls.quiet_of (CS.out _)))
  refine gwE (fun wc hwc => ?_)
  obtain ⟨qc, hqc⟩ : ∃ q, wc = wb.drewN q := ⟨_, hwc.symm⟩
  have HBc : Hid (Below w.heap.size w wc) := Lib.hid (by rw [hqc]; exact bdn HBw.out _)
  have HXc : Hid (Blk wc w.heap.size _ 34) := Lib.hid (by rw [hqc]; exact HXb.out.drewN _)
  have HDc : Hid (Blk wc D _ 49) := Lib.hid (by rw [hqc]; exact HDb.out.drewN _)
  have H3c : Hid (IRow wc S (some ad1) r.lasts) := Lib.hid (by rw [hqc]; exact Kd.F_drewN H3b.out _)
  have H4c : Hid (LRow wc S A2 r.l) := Lib.hid (by rw [hqc]; exact Kd.F_drewN H4b.out _)
  clear hqc hwc x0 x1 x2 x3 x4 x5 m1 m2 m3 u0 CS HBw HXb HDb H3b H4b
  have x0 := HXc.out.cell (j := 0) rfl
  have x1 := HXc.out.cell (j := 1) rfl
  have x2 := HXc.out.cell (j := 2) rfl
  have x3 := HXc.out.cell (j := 3) rfl
  have x4 := HXc.out.cell (j := 4) rfl
  have x5 := HXc.out.cell (j := 5) rfl
  have m1 : wc.cell? ⟨D, 1, none⟩ = some (.int .i64 r.serial) := HDc.out.cell (j := 1) rfl
  have m2 : wc.cell? ⟨D, 2, none⟩ = some (.slice (some ad1) r.lasts.length c1) := HDc.out.cell (j := 2) rfl
  have m3 : wc.cell? ⟨D, 3, none⟩ = some (.slice A2 r.l.length c2) := HDc.out.cell (j := 3) rfl
  go_wp2_with fail
  refine (refID_ (Kd.F_now H4c.out) H2.out HL.out id).mono ?_
  rintro e w6 ⟨rfl, q6, rfl⟩
  rw [HI.out]
  go_wp2_with fail
  go_ret
  exact ⟨rfl, by first | exact HBc.out | exact bdn HBc.out _⟩
end Go.Proofs.Ytccfjjaljckinaa.Tag
/- The document's table: one lives again: the way through. No conditions. -/
namespace Go.Proofs.Ytccfjjaljckinaa.Tag
open Go.RowKit Go.Lib Go.Proofs.Ytccfjjaljckinaa.Mem Go.Proofs.Ytccfjjaljckinaa.IMap Go.Proofs.YtccfjjaljckinaaW.PrintWords Go.Proofs.Ytccfjjaljckinaa.PTagActs

set_option maxRecDepth 100000 in
set_option maxHeartbeats 8000000 in
theorem rrevive_ins {w : World} {S : Nat → Prop} {D : Nat} {r : RTab} (h : RefAt w S D r) (hl : r.l.length ≤ 1000000) {i g t key id : Int} {ins : Bool} {M : Int} (hM : rmay r t = M) (h0 : M = 0) {n : Nat} {v : Int} (hn : i = n) (hv : r.lasts[n]? = some v) (hs : r.l.any (fun y => y.r.i == (n : Int)) = false) (hg : 1 ≤ g) (hv2 : g ≤ v) (hd : 0 ≤ id) (hd2 : id < r.serial) (hI : r.l.any (fun y => y.o.id == id) = false) (hi : ins = true) :
    Calls Try.prog 40 #[.pointer (some ⟨D, 0, none⟩), .agg #[.int .i64 i, .int .i64 g, .int .i64 t, .bool ins, .int .i64 key, .int .i64 id]] w fun e w' => e = .returned (.int .i64 0) ∧ (∃ S', RefAt w' S' D { r with l := addL r.l ⟨⟨i, g⟩, ⟨t, ins, key, id⟩⟩ } ∧ ∀ k, S' k → Wide S w k) ∧ Chg (fun k => k = D) w w' := by
  subst hn
  subst h0
  have t1 : decide ((n : Int) < 0) = false := decide_eq_false (by omega)
  have t2 : decide ((r.lasts.length : Int) ≤ (n : Int)) = false := decide_eq_false (by have := (List.getElem?_eq_some_iff.1 hv).1; omega)
  have tn : decide (r.lasts.length ≤ n) = false := decide_eq_false (by have := (List.getElem?_eq_some_iff.1 hv).1; omega)
  have hi0 : (0 : Int) ≤ n := by omega
  have hiN : (n : Int) < r.lasts.length := by have := (List.getElem?_eq_some_iff.1 hv).1; omega
  have ei : (n : Int).toNat = n := by omega
  have HV := Lib.hid hv
  clear hv
  have HS := Lib.hid hs
  clear hs
  have t3 : decide (g < 1) = false := decide_eq_false (by omega)
  have t4 : decide (v < g) = false := decide_eq_false (by omega)
  have t5 : decide (id < 0) = false := decide_eq_false (by omega)
  have t6 : decide (r.serial ≤ id) = false := decide_eq_false (by omega)
  have HI := Lib.hid hI
  clear hI
  subst hi
  have hR := h
  obtain ⟨A1, c1, A2, c2, hb, h1, h2, h3, h4, h5⟩ := h
  have HR := Lib.hid hR
  have HD := Lib.hid hb
  have H1 := Lib.hid h1
  have H3 := Lib.hid h3
  have H4 := Lib.hid h4
  have H5 := Lib.hid h5
  have H2 := Lib.hid h2
  have HL := Lib.hid hl
  have HLt := Lib.hid hb.lt
  have HM := Lib.hid hM
  have hu32 := Try.underlying32
  have hu34 := Try.underlying34
  have hu30 := Try.underlying30
  have hu28 := Try.underlying28
  clear hb h1 h2 h3 h4 h5 hl hM hR
  go_enter Try.func40, Try.ntmps40
  go_wp2_with fail
  refine gw (fun wa hwa => ?_)
  have HBa : Hid (Below w.heap.size w wa) := Lib.hid (by rw [← hwa]; exact (Below.refl _ _).alloc (Nat.le_refl _) _)
  have HX : Hid (Blk wa w.heap.size #[.int .i64 (n : Int), .int .i64 g, .int .i64 t, .bool true, .int .i64 key, .int .i64 id] 34) := Lib.hid (by rw [← hwa]; exact Blk.new _ _ _)
  clear hwa
  refine (rmayAt (HR.out.below HBa.out) HL.out t).mono ?_
  rintro e wb ⟨rfl, hb⟩
  rw [HM.out]
  have HBw : Hid (Below w.heap.size w wb) := Lib.hid (btrans HBa.out hb)
  have HXb := Lib.hid (HX.out.below hb)
  have HDb := Lib.hid (HD.out.below HBw.out)
  have H3b := Lib.hid (Kd.F_below H3.out HBw.out)
  have H4b := Lib.hid (Kd.F_below H4.out HBw.out)
  clear HBa HX hb
  have x0 := HXb.out.cell (j := 0) rfl
  have x1 := HXb.out.cell (j := 1) rfl
  have x2 := HXb.out.cell (j := 2) rfl
  have x3 := HXb.out.cell (j := 3) rfl
  have x4 := HXb.out.cell (j := 4) rfl
  have x5 := HXb.out.cell (j := 5) rfl
  have m1 : wb.cell? ⟨D, 1, none⟩ = some (.int .i64 r.serial) := HDb.out.cell (j := 1) rfl
  have m2 : wb.cell? ⟨D, 2, none⟩ = some (.slice A1 r.lasts.length c1) := HDb.out.cell (j := 2) rfl
  have m3 : wb.cell? ⟨D, 3, none⟩ = some (.slice A2 r.l.length c2) := HDb.out.cell (j := 3) rfl
  obtain ⟨ad1, rfl, u0⟩ := irow_at (Kd.F_now H3b.out) HV.out
  have CS : Hid (∀ q, Calls Try.prog 34 #[.slice A2 r.l.length c2, .int .i64 n] (wb.drewN q) fun e w' => e = .returned (.bool false) ∧ ∃ m, w' = (wb.drewN q).drewN m) := Lib.hid (fun q => by
    have := refSlot_ (Kd.F_now (Kd.F_drewN H4b.out q)) H2.out HL.out (n : Int)
    rw [HS.out] at this
    exact this)
  go_wp2_with fail
  go_quiet ((go_at_call 34; exact Calls.quiet_of (CS.out _)))
  refine gwE (fun wc hwc => ?_)
  obtain ⟨qc, hqc⟩ : ∃ q, wc = wb.drewN q := ⟨_, hwc.symm⟩
  have HBc : Hid (Below w.heap.size w wc) := Lib.hid (by rw [hqc]; exact bdn HBw.out _)
  have HXc : Hid (Blk wc w.heap.size _ 34) := Lib.hid (by rw [hqc]; exact HXb.out.drewN _)
  have HDc : Hid (Blk wc D _ 49) := Lib.hid (by rw [hqc]; exact HDb.out.drewN _)
  have H3c : Hid (IRow wc S (some ad1) r.lasts) := Lib.hid (by rw [hqc]; exact Kd.F_drewN H3b.out _)
  have H4c : Hid (LRow wc S A2 r.l) := Lib.hid (by rw [hqc]; exact Kd.F_drewN H4b.out _)
  clear hqc hwc x0 x1 x2 x3 x4 x5 m1 m2 m3 u0 CS HBw HXb HDb H3b H4b
  have x0 := HXc.out.cell (j := 0) rfl
  have x1 := HXc.out.cell (j := 1) rfl
  have x2 := HXc.out.cell (j := 2) rfl
  have x3 := HXc.out.cell (j := 3) rfl
  have x4 := HXc.out.cell (j := 4) rfl
  have x5 := HXc.out.cell (j := 5) rfl
  have m1 : wc.cell? ⟨D, 1, none⟩ = some (.int .i64 r.serial) := HDc.out.cell (j := 1) rfl
  have m2 : wc.cell? ⟨D, 2, none⟩ = some (.slice (some ad1) r.lasts.length c1) := HDc.out.cell (j := 2) rfl
  have m3 : wc.cell? ⟨D, 3, none⟩ = some (.slice A2 r.l.length c2) := HDc.out.cell (j := 3) rfl
  go_wp2_with fail
  refine (refID_ (Kd.F_now H4c.out) H2.out HL.out id).mono ?_
  rintro e w6 ⟨rfl, q6, rfl⟩
  rw [HI.out]
  go_wp2_with fail
  refine gwP (fun wd hwd => ?_)
  have HBd : Hid (Below w.heap.size w wd) := Lib.hid (by rw [← hwd]; exact bdn HBc.out _)
  have HXd : Hid (Blk wd w.heap.size #[.int .i64 n, .int .i64 g, .int .i64 t, .bool true, .int .i64 key, .int .i64 id] 34) := Lib.hid (by rw [← hwd]; exact HXc.out.drewN _)
  have HDd : Hid (Blk wd D _ 49) := Lib.hid (by rw [← hwd]; exact HDc.out.drewN _)
  have H3d : Hid (IRow wd S (some ad1) r.lasts) := Lib.hid (by rw [← hwd]; exact Kd.F_drewN H3c.out _)
  have H4d : Hid (LRow wd S A2 r.l) := Lib.hid (by rw [← hwd]; exact Kd.F_drewN H4c.out _)
  clear hwd x0 x1 x2 x3 x4 x5 m1 m2 m3 HBc HXc HDc H3c H4c
  have x0 := HXd.out.cell (j := 0) rfl
  have x1 := HXd.out.cell (j := 1) rfl
  have x2 := HXd.out.cell (j := 2) rfl
  have x3 := HXd.out.cell (j := 3) rfl
  have x4 := HXd.out.cell (j := 4) rfl
  have x5 := HXd.out.cell (j := 5) rfl
  have m1 : wd.cell? ⟨D, 1, none⟩ = some (.int .i64 r.serial) := HDd.out.cell (j := 1) rfl
  have m2 : wd.cell? ⟨D, 2, none⟩ = some (.slice (some ad1) r.lasts.length c1) := HDd.out.cell (j := 2) rfl
  have m3 : wd.cell? ⟨D, 3, none⟩ = some (.slice A2 r.l.length c2) := HDd.out.cell (j := 3) rfl
  have CA : Hid (Calls Try.prog 50 #[.slice A2 r.l.length c2, aggL ⟨⟨n, g⟩, ⟨t, true, key, id⟩⟩] wd.drew fun e w' => ∃ A' c', e = .returned (.slice A' (addL r.l ⟨⟨n, g⟩, ⟨t, true, key, id⟩⟩).length c') ∧ (addL r.l ⟨⟨n, g⟩, ⟨t, true, key, id⟩⟩).length ≤ c' ∧
      LRow w' (fun k => wd.heap.size ≤ k ∧ k < w'.heap.size) A' (addL r.l ⟨⟨n, g⟩, ⟨t, true, key, id⟩⟩) ∧ Below wd.heap.size wd w') := Lib.hid ((refAdd_ (Kd.F_now (Kd.F_drew H4d.out)) H2.out HL.out ⟨⟨n, g⟩, ⟨t, true, key, id⟩⟩).mono (fun e w' ⟨A', c', a, b, c, d⟩ => ⟨A', c', a, b, c, (Below.refl _ _).drew.trans d⟩))
  go_region_with (go_at_call 50; refine CA.out.mono ?_; rintro e w6 ⟨A6, c6, rfl, hc6, hrow6, hb6⟩; have HC6 := Lib.hid hc6; have HRow6 := Lib.hid hrow6; have HB6 := Lib.hid hb6; have HD6 := Lib.hid (HDd.out.below hb6); have m3 : w6.cell? ⟨D, 3, none⟩ = some (.slice A2 r.l.length c2) := HD6.out.cell (j := 3) rfl; have n3 := HD6.out.free 3; clear hc6 hrow6 hb6)
  all_goals
    refine gwE (fun wz hwz => ?_)
    have z6 : wd.heap.size ≤ w6.heap.size := HB6.out.size
    have zd : w.heap.size ≤ wd.heap.size := HBd.out.size
    have zl := HLt.out
    have HBw6 : Below w.heap.size w w6 := btrans HBd.out HB6.out
    have RZ : RefAt wz (fun k => S k ∨ (wd.heap.size ≤ k ∧ k < w6.heap.size)) D { r with l := addL r.l ⟨⟨n, g⟩, ⟨t, true, key, id⟩⟩ } := by
      rw [← hwz]
      exact RefAt.setL (r := r) (S' := fun k => wd.heap.size ≤ k ∧ k < w6.heap.size) HD6.out H1.out (Kd.F_below H3d.out HB6.out) (fun k hk => ⟨(H5.out k hk).1, by have := (H5.out k hk).2; omega⟩) HC6.out HRow6.out (fun k hk => ⟨by have := hk.1; omega, hk.2⟩)
    have CZ : Chg (fun k => k = D) w wz := by
      rw [← hwz]
      exact Chg.set (S := fun k => k = D) (p := ⟨D, 3, none⟩) (Chg.of_below HBw6) (fun _ => rfl) _
    have HRZ := Lib.hid RZ
    have HCZ := Lib.hid CZ
    have HWW : Hid (w.heap.size ≤ wd.heap.size) := Lib.hid zd
    clear RZ CZ hwz HBw6
    go_wp2_with fail
    go_ret
    exact ⟨rfl, ⟨_, HRZ.out, fun k hk => by rcases hk with hk | hk; exact Or.inl hk; exact Or.inr (Nat.le_trans HWW.out hk.1)⟩, HCZ.out⟩

set_option maxRecDepth 100000 in
set_option maxHeartbeats 8000000 in
theorem rrevive_del {w : World} {S : Nat → Prop} {D : Nat} {r : RTab} (h : RefAt w S D r) (hl : r.l.length ≤ 1000000) {i g t key id : Int} {ins : Bool} {M : Int} (hM : rmay r t = M) (h0 : M = 0) {n : Nat} {v : Int} (hn : i = n) (hv : r.lasts[n]? = some v) (hs : r.l.any (fun y => y.r.i == (n : Int)) = false) (hg : 1 ≤ g) (hv2 : g ≤ v) (hd : 0 ≤ id) (hd2 : id < r.serial) (hI : r.l.any (fun y => y.o.id == id) = false) (hi : ins = false) (hk : key = 0) :
    Calls Try.prog 40 #[.pointer (some ⟨D, 0, none⟩), .agg #[.int .i64 i, .int .i64 g, .int .i64 t, .bool ins, .int .i64 key, .int .i64 id]] w fun e w' => e = .returned (.int .i64 0) ∧ (∃ S', RefAt w' S' D { r with l := addL r.l ⟨⟨i, g⟩, ⟨t, ins, key, id⟩⟩ } ∧ ∀ k, S' k → Wide S w k) ∧ Chg (fun k => k = D) w w' := by
  subst hn
  subst h0
  have t1 : decide ((n : Int) < 0) = false := decide_eq_false (by omega)
  have t2 : decide ((r.lasts.length : Int) ≤ (n : Int)) = false := decide_eq_false (by have := (List.getElem?_eq_some_iff.1 hv).1; omega)
  have tn : decide (r.lasts.length ≤ n) = false := decide_eq_false (by have := (List.getElem?_eq_some_iff.1 hv).1; omega)
  have hi0 : (0 : Int) ≤ n := by omega
  have hiN : (n : Int) < r.lasts.length := by have := (List.getElem?_eq_some_iff.1 hv).1; omega
  have ei : (n : Int).toNat = n := by omega
  have HV := Lib.hid hv
  clear hv
  have HS := Lib.hid hs
  clear hs
  have t3 : decide (g < 1) = false := decide_eq_false (by omega)
  have t4 : decide (v < g) = false := decide_eq_false (by omega)
  have t5 : decide (id < 0) = false := decide_eq_false (by omega)
  have t6 : decide (r.serial ≤ id) = false := decide_eq_false (by omega)
  have HI := Lib.hid hI
  clear hI
  subst hi
  subst hk
  have hR := h
  obtain ⟨A1, c1, A2, c2, hb, h1, h2, h3, h4, h5⟩ := h
  have HR := Lib.hid hR
  have HD := Lib.hid hb
  have H1 := Lib.hid h1
  have H3 := Lib.hid h3
  have H4 := Lib.hid h4
  have H5 := Lib.hid h5
  have H2 := Lib.hid h2
  have HL := Lib.hid hl
  have HLt := Lib.hid hb.lt
  have HM := Lib.hid hM
  have hu32 := Try.underlying32
  have hu34 := Try.underlying34
  have hu30 := Try.underlying30
  have hu28 := Try.underlying28
  clear hb h1 h2 h3 h4 h5 hl hM hR
  go_enter Try.func40, Try.ntmps40
  go_wp2_with fail
  refine gw (fun wa hwa => ?_)
  have HBa : Hid (Below w.heap.size w wa) := Lib.hid (by rw [← hwa]; exact (Below.refl _ _).alloc (Nat.le_refl _) _)
  have HX : Hid (Blk wa w.heap.size #[.int .i64 (n : Int), .int .i64 g, .int .i64 t, .bool false, .int .i64 0, .int .i64 id] 34) := Lib.hid (by rw [← hwa]; exact Blk.new _ _ _)
  clear hwa
  refine (rmayAt (HR.out.below HBa.out) HL.out t).mono ?_
  rintro e wb ⟨rfl, hb⟩
  rw [HM.out]
  have HBw : Hid (Below w.heap.size w wb) := Lib.hid (btrans HBa.out hb)
  have HXb := Lib.hid (HX.out.below hb)
  have HDb := Lib.hid (HD.out.below HBw.out)
  have H3b := Lib.hid (Kd.F_below H3.out HBw.out)
  have H4b := Lib.hid (Kd.F_below H4.out HBw.out)
  clear HBa HX hb
  have x0 := HXb.out.cell (j := 0) rfl
  have x1 := HXb.out.cell (j := 1) rfl
  have x2 := HXb.out.cell (j := 2) rfl
  have x3 := HXb.out.cell (j := 3) rfl
  have x4 := HXb.out.cell (j := 4) rfl
  have x5 := HXb.out.cell (j := 5) rfl
  have m1 : wb.cell? ⟨D, 1, none⟩ = some (.int .i64 r.serial) := HDb.out.cell (j := 1) rfl
  have m2 : wb.cell? ⟨D, 2, none⟩ = some (.slice A1 r.lasts.length c1) := HDb.out.cell (j := 2) rfl
  have m3 : wb.cell? ⟨D, 3, none⟩ = some (.slice A2 r.l.length c2) := HDb.out.cell (j := 3) rfl
  obtain ⟨ad1, rfl, u0⟩ := irow_at (Kd.F_now H3b.out) HV.out
  have CS : Hid (∀ q, Calls Try.prog 34 #[.slice A2 r.l.length c2, .int .i64 n] (wb.drewN q) fun e w' => e = .returned (.bool false) ∧ ∃ m, w' = (wb.drewN q).drewN m) := Lib.hid (fun q => by
    have := refSlot_ (Kd.F_now (Kd.F_drewN H4b.out q)) H2.out HL.out (n : Int)
    rw [HS.out] at this
    exact this)
  go_wp2_with fail
  go_quiet ((go_at_call 34; exact Calls.quiet_of (CS.out _)))
  refine gwE (fun wc hwc => ?_)
  obtain ⟨qc, hqc⟩ : ∃ q, wc = wb.drewN q := ⟨_, hwc.symm⟩
  have HBc : Hid (Below w.heap.size w wc) := Lib.hid (by rw [hqc]; exact bdn HBw.out _)
  have HXc : Hid (Blk wc w.heap.size _ 34) := Lib.hid (by rw [hqc]; exact HXb.out.drewN _)
  have HDc : Hid (Blk wc D _ 49) := Lib.hid (by rw [hqc]; exact HDb.out.drewN _)
  have H3c : Hid (IRow wc S (some ad1) r.lasts) := Lib.hid (by rw [hqc]; exact Kd.F_drewN H3b.out _)
  have H4c : Hid (LRow wc S A2 r.l) := Lib.hid (by rw [hqc]; exact Kd.F_drewN H4b.out _)
  clear hqc hwc x0 x1 x2 x3 x4 x5 m1 m2 m3 u0 CS HBw HXb HDb H3b H4b
  have x0 := HXc.out.cell (j := 0) rfl
  have x1 := HXc.out.cell (j := 1) rfl
  have x2 := HXc.out.cell (j := 2) rfl
  have x3 := HXc.out.cell (j := 3) rfl
  have x4 := HXc.out.cell (j := 4) rfl
  have x5 := HXc.out.cell (j := 5) rfl
  have m1 : wc.cell? ⟨D, 1, none⟩ = some (.int .i64 r.serial) := HDc.out.cell (j := 1) rfl
  have m2 : wc.cell? ⟨D, 2, none⟩ = some (.slice (some ad1) r.lasts.length c1) := HDc.out.cell (j := 2) rfl
  have m3 : wc.cell? ⟨D, 3, none⟩ = some (.slice A2 r.l.length c2) := HDc.out.cell (j := 3) rfl
  go_wp2_with fail
  refine (refID_ (Kd.F_now H4c.out) H2.out HL.out id).mono ?_
  rintro e w6 ⟨rfl, q6, rfl⟩
  rw [HI.out]
  go_wp2_with fail
  refine gwP (fun wd hwd => ?_)
  have HBd : Hid (Below w.heap.size w wd) := Lib.hid (by rw [← hwd]; exact bdn HBc.out _)
  have HXd : Hid (Blk wd w.heap.size #[.int .i64 n, .int .i64 g, .int .i64 t, .bool false, .int .i64 0, .int .i64 id] 34) := Lib.hid (by rw [← hwd]; exact HXc.out.drewN _)
  have HDd : Hid (Blk wd D _ 49) := Lib.hid (by rw [← hwd]; exact HDc.out.drewN _)
  have H3d : Hid (IRow wd S (some ad1) r.lasts) := Lib.hid (by rw [← hwd]; exact Kd.F_drewN H3c.out _)
  have H4d : Hid (LRow wd S A2 r.l) := Lib.hid (by rw [← hwd]; exact Kd.F_drewN H4c.out _)
  clear hwd x0 x1 x2 x3 x4 x5 m1 m2 m3 HBc HXc HDc H3c H4c
  have x0 := HXd.out.cell (j := 0) rfl
  have x1 := HXd.out.cell (j := 1) rfl
  have x2 := HXd.out.cell (j := 2) rfl
  have x3 := HXd.out.cell (j := 3) rfl
  have x4 := HXd.out.cell (j := 4) rfl
  have x5 := HXd.out.cell (j := 5) rfl
  have m1 : wd.cell? ⟨D, 1, none⟩ = some (.int .i64 r.serial) := HDd.out.cell (j := 1) rfl
  have m2 : wd.cell? ⟨D, 2, none⟩ = some (.slice (some ad1) r.lasts.length c1) := HDd.out.cell (j := 2) rfl
  have m3 : wd.cell? ⟨D, 3, none⟩ = some (.slice A2 r.l.length c2) := HDd.out.cell (j := 3) rfl
  have CA : Hid (Calls Try.prog 50 #[.slice A2 r.l.length c2, aggL ⟨⟨n, g⟩, ⟨t, false, 0, id⟩⟩] wd.drew fun e w' => ∃ A' c', e = .returned (.slice A' (addL r.l ⟨⟨n, g⟩, ⟨t, false, 0, id⟩⟩).length c') ∧ (addL r.l ⟨⟨n, g⟩, ⟨t, false, 0, id⟩⟩).length ≤ c' ∧
      LRow w' (fun k => wd.heap.size ≤ k ∧ k < w'.heap.size) A' (addL r.l ⟨⟨n, g⟩, ⟨t, false, 0, id⟩⟩) ∧ Below wd.heap.size wd w') := Lib.hid ((refAdd_ (Kd.F_now (Kd.F_drew H4d.out)) H2.out HL.out ⟨⟨n, g⟩, ⟨t, false, 0, id⟩⟩).mono (fun e w' ⟨A', c', a, b, c, d⟩ => ⟨A', c', a, b, c, (Below.refl _ _).drew.trans d⟩))
  go_region_with (go_at_call 50; refine CA.out.mono ?_; rintro e w6 ⟨A6, c6, rfl, hc6, hrow6, hb6⟩; have HC6 := Lib.hid hc6; have HRow6 := Lib.hid hrow6; have HB6 := Lib.hid hb6; have HD6 := Lib.hid (HDd.out.below hb6); have m3 : w6.cell? ⟨D, 3, none⟩ = some (.slice A2 r.l.length c2) := HD6.out.cell (j := 3) rfl; have n3 := HD6.out.free 3; clear hc6 hrow6 hb6)
  all_goals
    refine gwE (fun wz hwz => ?_)
    have z6 : wd.heap.size ≤ w6.heap.size := HB6.out.size
    have zd : w.heap.size ≤ wd.heap.size := HBd.out.size
    have zl := HLt.out
    have HBw6 : Below w.heap.size w w6 := btrans HBd.out HB6.out
    have RZ : RefAt wz (fun k => S k ∨ (wd.heap.size ≤ k ∧ k < w6.heap.size)) D { r with l := addL r.l ⟨⟨n, g⟩, ⟨t, false, 0, id⟩⟩ } := by
      rw [← hwz]
      exact RefAt.setL (r := r) (S' := fun k => wd.heap.size ≤ k ∧ k < w6.heap.size) HD6.out H1.out (Kd.F_below H3d.out HB6.out) (fun k hk => ⟨(H5.out k hk).1, by have := (H5.out k hk).2; omega⟩) HC6.out HRow6.out (fun k hk => ⟨by have := hk.1; omega, hk.2⟩)
    have CZ : Chg (fun k => k = D) w wz := by
      rw [← hwz]
      exact Chg.set (S := fun k => k = D) (p := ⟨D, 3, none⟩) (Chg.of_below HBw6) (fun _ => rfl) _
    have HRZ := Lib.hid RZ
    have HCZ := Lib.hid CZ
    have HWW : Hid (w.heap.size ≤ wd.heap.size) := Lib.hid zd
    clear RZ CZ hwz HBw6
    go_wp2_with fail
    go_ret
    exact ⟨rfl, ⟨_, HRZ.out, fun k hk => by rcases hk with hk | hk; exact Or.inl hk; exact Or.inr (Nat.le_trans HWW.out hk.1)⟩, HCZ.out⟩
end Go.Proofs.Ytccfjjaljckinaa.Tag
/- The document's table: one lives again, whichever way. No conditions. -/
namespace Go.Proofs.Ytccfjjaljckinaa.Tag
open Go.RowKit Go.Lib Go.Proofs.Ytccfjjaljckinaa.Mem Go.Proofs.Ytccfjjaljckinaa.IMap Go.Proofs.YtccfjjaljckinaaW.PrintWords Go.Proofs.Ytccfjjaljckinaa.PTagActs

def rreviveE (r : RTab) (x : Listed) : Int :=
  if rmay r x.o.time = 0 then
    (if x.r.i < 0 then 13 else match r.lasts[x.r.i.toNat]? with
      | none => 13
      | some v => if r.l.any (fun y => y.r.i == x.r.i) = true ∨ x.r.g < 1 ∨ v < x.r.g then 13
        else if x.o.id < 0 ∨ r.serial ≤ x.o.id ∨ r.l.any (fun y => y.o.id == x.o.id) = true ∨ (x.o.ins = false ∧ x.o.key ≠ 0) then 2 else 0)
  else rmay r x.o.time
def rreviveT (r : RTab) (x : Listed) : RTab := if rreviveE r x = 0 then { r with l := addL r.l x } else r

theorem rreviveAt {w : World} {S : Nat → Prop} {D : Nat} {r : RTab} (h : RefAt w S D r) (hl : r.l.length ≤ 1000000) (x : Listed) :
    Calls Try.prog 40 #[.pointer (some ⟨D, 0, none⟩), aggL x] w fun e w' => e = .returned (.int .i64 (rreviveE r x)) ∧
      (∃ S', RefAt w' S' D (rreviveT r x) ∧ ∀ k, S' k → Wide S w k) ∧ Chg (fun k => k = D) w w' := by
  obtain ⟨⟨i, g⟩, ⟨t, ins, key, id⟩⟩ := x
  have bad : ∀ {E : Int} {e : Ending} {w' : World}, rreviveE r ⟨⟨i, g⟩, ⟨t, ins, key, id⟩⟩ = E → E ≠ 0 → (e = .returned (.int .i64 E) ∧ Below w.heap.size w w') → e = .returned (.int .i64 (rreviveE r ⟨⟨i, g⟩, ⟨t, ins, key, id⟩⟩)) ∧
      (∃ S', RefAt w' S' D (rreviveT r ⟨⟨i, g⟩, ⟨t, ins, key, id⟩⟩) ∧ ∀ k, S' k → Wide S w k) ∧ Chg (fun k => k = D) w w' := by
    rintro E e w' h1 h2 ⟨rfl, hb⟩
    unfold rreviveT
    rw [h1, if_neg h2]
    exact ⟨rfl, ⟨S, h.below hb, fun k hk => Or.inl hk⟩, Chg.of_below hb⟩
  by_cases hm : rmay r t = 0
  · by_cases hi : i < 0
    · exact (rrevive_neg h hl hm rfl hi).mono fun e w' q => bad (by unfold rreviveE; rw [if_pos hm, if_pos hi]) (by decide) q
    · obtain ⟨n, rfl⟩ : ∃ n : Nat, i = n := ⟨i.toNat, by omega⟩
      cases hv : r.lasts[n]? with
      | none =>
        have hb : (r.lasts.length : Int) ≤ (n : Int) := by have := List.getElem?_eq_none_iff.1 hv; omega
        exact (rrevive_big h hl hm rfl hb).mono fun e w' q => bad (by unfold rreviveE; rw [if_pos hm, if_neg hi]; simp only [Int.toNat_natCast]; rw [hv]) (by decide) q
      | some v =>
        have ev : rreviveE r ⟨⟨n, g⟩, ⟨t, ins, key, id⟩⟩ = (if r.l.any (fun y => y.r.i == (n : Int)) = true ∨ g < 1 ∨ v < g then 13
            else if id < 0 ∨ r.serial ≤ id ∨ r.l.any (fun y => y.o.id == id) = true ∨ (ins = false ∧ key ≠ 0) then 2 else 0) := by
          unfold rreviveE; rw [if_pos hm, if_neg hi]; simp only [Int.toNat_natCast]; rw [hv]
        cases hs : r.l.any (fun y => y.r.i == (n : Int)) with
        | true => exact (rrevive_slot h hl hm rfl rfl hv hs).mono fun e w' q => bad (by rw [ev, if_pos (Or.inl hs)]) (by decide) q
        | false =>
          by_cases hg : g < 1
          · exact (rrevive_low h hl hm rfl rfl hv hs hg).mono fun e w' q => bad (by rw [ev, if_pos (Or.inr (Or.inl hg))]) (by decide) q
          · have g1 : 1 ≤ g := by omega
            by_cases hg2 : v < g
            · exact (rrevive_high h hl hm rfl rfl hv hs g1 hg2).mono fun e w' q => bad (by rw [ev, if_pos (Or.inr (Or.inr hg2))]) (by decide) q
            · have g2 : g ≤ v := by omega
              have n1 : ¬ (r.l.any (fun y => y.r.i == (n : Int)) = true ∨ g < 1 ∨ v < g) := by rw [hs]; simp; omega
              rw [if_neg n1] at ev
              by_cases hd : id < 0
              · exact (rrevive_idneg h hl hm rfl rfl hv hs g1 g2 hd).mono fun e w' q => bad (by rw [ev, if_pos (Or.inl hd)]) (by decide) q
              · have d1 : 0 ≤ id := by omega
                by_cases hd2 : r.serial ≤ id
                · exact (rrevive_idbig h hl hm rfl rfl hv hs g1 g2 d1 hd2).mono fun e w' q => bad (by rw [ev, if_pos (Or.inr (Or.inl hd2))]) (by decide) q
                · have d2 : id < r.serial := by omega
                  cases hI : r.l.any (fun y => y.o.id == id) with
                  | true => exact (rrevive_idany h hl hm rfl rfl hv hs g1 g2 d1 d2 hI).mono fun e w' q => bad (by rw [ev, if_pos (Or.inr (Or.inr (Or.inl hI)))]) (by decide) q
                  | false =>
                    cases hn : ins with
                    | true =>
                      subst hn
                      have e0 : rreviveE r ⟨⟨n, g⟩, ⟨t, true, key, id⟩⟩ = 0 := by rw [ev, if_neg]; rw [hI]; simp; omega
                      unfold rreviveT
                      rw [e0, if_pos rfl]
                      exact rrevive_ins h hl hm rfl rfl hv hs g1 g2 d1 d2 hI rfl
                    | false =>
                      subst hn
                      by_cases hk : key = 0
                      · have e0 : rreviveE r ⟨⟨n, g⟩, ⟨t, false, key, id⟩⟩ = 0 := by rw [ev, if_neg]; rw [hI]; simp [hk]; omega
                        unfold rreviveT
                        rw [e0, if_pos rfl]
                        exact rrevive_del h hl hm rfl rfl hv hs g1 g2 d1 d2 hI rfl hk
                      · exact (rrevive_key h hl hm rfl rfl hv hs g1 g2 d1 d2 hI rfl hk).mono fun e w' q => bad (by rw [ev, if_pos (Or.inr (Or.inr (Or.inr ⟨rfl, hk⟩)))]) (by decide) q
  · exact (rrevive_may h hl rfl hm).mono fun e w' q => bad (by unfold rreviveE; rw [if_neg hm]) hm q
end Go.Proofs.Ytccfjjaljckinaa.Tag
