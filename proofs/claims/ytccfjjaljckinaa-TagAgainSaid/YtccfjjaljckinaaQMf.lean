/- Tables and their document, part Mf of this seat's texts: plain facts and walks. No conditions. -/
import Derived.Test.YtccfjjaljckinaaQMe
import Derived.Deep.RegionWith
import Derived.LoopTactic
/- The document's table: one more. No conditions. -/
namespace Go.Proofs.Ytccfjjaljckinaa.Tag
open Go.RowKit Go.Lib Go.Proofs.Ytccfjjaljckinaa.Mem Go.Proofs.Ytccfjjaljckinaa.IMap Go.Proofs.YtccfjjaljckinaaW.PrintWords Go.Proofs.Ytccfjjaljckinaa.PTagActs

set_option maxRecDepth 100000 in
set_option maxHeartbeats 4000000 in
theorem rissue_err {w : World} {S : Nat → Prop} {D : Nat} {r : RTab} (h : RefAt w S D r) (hl : r.l.length ≤ 1000000) {x key : Int} {ins : Bool} {M : Int} (hM : rmay r x = M) (h0 : M ≠ 0) :
    Calls Try.prog 38 #[.pointer (some ⟨D, 0, none⟩), .int .i64 x, .bool ins, .int .i64 key] w fun e w' => e = .returned (.tuple #[aggL listed0, .int .i64 M]) ∧ Below w.heap.size w w' := by
  have HR := Lib.hid h
  have HL := Lib.hid hl
  have HM := Lib.hid hM
  have t1 : (M == 0) = false := beq_eq_false_iff_ne.2 h0
  have t2 : (M != 0) = true := by rw [bne, t1]; rfl
  have hu34 := Try.underlying34
  clear h hl hM h0
  go_enter Try.func38, Try.ntmps38
  go_wp2_with fail
  refine gw (fun wa hwa => ?_)
  have HBa : Hid (Below w.heap.size w wa) := Lib.hid (by rw [← hwa]; exact (Below.refl _ _).alloc (Nat.le_refl _) _)
  have HX : Hid (Blk wa w.heap.size #[.int .i64 0, .int .i64 0, .int .i64 0, .bool false, .int .i64 0, .int .i64 0] 34) := Lib.hid (by rw [← hwa]; exact Blk.new _ _ _)
  clear hwa
  refine (rmayAt (HR.out.below HBa.out) HL.out x).mono ?_
  rintro e wb ⟨rfl, hb⟩
  rw [HM.out]
  have HBw : Hid (Below w.heap.size w wb) := Lib.hid (btrans HBa.out hb)
  have HXb := Lib.hid (HX.out.below hb)
  clear HBa HX hb
  have x0 := HXb.out.cell (j := 0) rfl
  have x1 := HXb.out.cell (j := 1) rfl
  have x2 := HXb.out.cell (j := 2) rfl
  have x3 := HXb.out.cell (j := 3) rfl
  have x4 := HXb.out.cell (j := 4) rfl
  have x5 := HXb.out.cell (j := 5) rfl
  have f0 := HXb.out.free 0
  have f1 := HXb.out.free 1
  have f2 := HXb.out.free 2
  have f3 := HXb.out.free 3
  have f4 := HXb.out.free 4
  have f5 := HXb.out.free 5
  go_wp2_with fail
  refine bodyPost_ret (results_ct rfl _ _ w.heap.size 34 _ (0, 0) _ rfl ((((((HXb.out.set 0 (.int .i64 0)).set 1 (.int .i64 0)).set 2 (.int .i64 0)).set 3 (.bool false)).set 4 (.int .i64 0)).set 5 (.int .i64 0)) Try.underlying34 rfl (by kernel_rfl)) rfl ?_
  exact ⟨rfl, (((((HBw.out.setCell (by simp) _).setCell (by simp) _).setCell (by simp) _).setCell (by simp) _).setCell (by simp) _).setCell (by simp) _⟩

def slotB (r : RTab) (j : Nat) : Bool := r.l.any (fun y => y.r.i == (j : Int))
/-- F is the first place that may be taken. -/
def FirstFree (r : RTab) (F : Nat) : Prop := (∀ j v, j < F → r.lasts[j]? = some v → slotB r j = true ∨ 4294967295 ≤ v) ∧ (F = r.lasts.length ∨ ∃ v, r.lasts[F]? = some v ∧ slotB r F = false ∧ v < 4294967295)
theorem FirstFree.le {r : RTab} {F : Nat} (h : FirstFree r F) : F ≤ r.lasts.length := by
  rcases h.2 with h | ⟨v, hv, _⟩
  · omega
  · have := (List.getElem?_eq_some_iff.1 hv).1; omega

end Go.Proofs.Ytccfjjaljckinaa.Tag
/- The document's table: one more: the way through. No conditions. -/
namespace Go.Proofs.Ytccfjjaljckinaa.Tag
open Go.RowKit Go.Lib Go.Proofs.Ytccfjjaljckinaa.Mem Go.Proofs.Ytccfjjaljckinaa.IMap Go.Proofs.YtccfjjaljckinaaW.PrintWords Go.Proofs.Ytccfjjaljckinaa.PTagActs
theorem info3 : (Try.prog.info? 3).map (fun i => (i.zero, i.size, i.bytes)) = some (some (.int .i64 0), 1, 8) := by kernel_rfl
theorem chg6 {S : Nat → Prop} {w w1 : World} (h : Chg S w w1) {b : Nat} (hb : b < w.heap.size → S b) (u0 u1 u2 u3 u4 u5 : Value) :
    Chg S w ((((((w1.setCell ⟨b, 0, none⟩ u0).setCell ⟨b, 1, none⟩ u1).setCell ⟨b, 2, none⟩ u2).setCell ⟨b, 3, none⟩ u3).setCell ⟨b, 4, none⟩ u4).setCell ⟨b, 5, none⟩ u5) :=
  Chg.set (p := ⟨b, 5, none⟩) (Chg.set (p := ⟨b, 4, none⟩) (chg4 h hb u0 u1 u2 u3) hb u4) hb u5
theorem own_cell {w : World} {base g n cap : Nat} {ok : Nat → Prop} {xs : List Int} (h : Kd.R (Kd.int .i64) 3 w base ok (.slice (some ⟨g, 0, none⟩) n cap) xs) {i : Nat} {v : Int} (hv : xs[i]? = some v) :
    w.cell? ⟨g, i, none⟩ = some (.int .i64 v) ∧ w.frozen? ⟨g, i, none⟩ = false := by
  have hn := (Kd.R_reads' h).1
  have hlt := (List.getElem?_eq_some_iff.1 hv).1
  have := Kd.R_celln (0 : Int) h (i : Int) (by omega) (by omega)
  rw [Int.toNat_natCast] at this
  have e : rdOf (0 : Int) xs (i : Int) = v := by simp [rdOf, List.getD, hv]
  rw [e] at this
  exact this
theorem own_put {w : World} {base g n cap : Nat} {ok : Nat → Prop} {xs : List Int} (h : Kd.R (Kd.int .i64) 3 w base ok (.slice (some ⟨g, 0, none⟩) n cap) xs) (i : Nat) (v : Int) :
    Kd.R (Kd.int .i64) 3 (w.setCell ⟨g, i, none⟩ (.int .i64 v)) base ok (.slice (some ⟨g, 0, none⟩) n cap) (xs.set i v) := by
  have := Kd.R_putn h (i : Int) v
  rw [Int.toNat_natCast] at this
  exact this
set_option maxRecDepth 100000 in
set_option maxHeartbeats 8000000 in
theorem rissue_new_t {w : World} {S : Nat → Prop} {D : Nat} {r : RTab} (h : RefAt w S D r) (hl : r.l.length ≤ 1000000) (hl2 : r.lasts.length ≤ 1000000) {x key : Int} (hM : rmay r x = 0) (hser : r.serial < 9223372036854775807) (hser0 : 0 ≤ r.serial) {F : Nat} (hF : ∀ j v, j < F → r.lasts[j]? = some v → slotB r j = true ∨ 4294967295 ≤ v) (hN : F = r.lasts.length) :
    Calls Try.prog 38 #[.pointer (some ⟨D, 0, none⟩), .int .i64 x, .bool true, .int .i64 key] w fun e w' => e = .returned (.tuple #[aggL ⟨⟨(r.lasts.length : Nat), 1⟩, ⟨x, true, key, r.serial⟩⟩, .int .i64 0]) ∧ (∃ S', RefAt w' S' D ⟨r.cap, r.serial + 1, r.lasts ++ [1], addL r.l ⟨⟨(r.lasts.length : Nat), 1⟩, ⟨x, true, key, r.serial⟩⟩⟩ ∧ ∀ k, S' k → Wide S w k) ∧ Chg (fun k => k = D) w w' := by
  have hR := h
  have hFle : F ≤ r.lasts.length := by omega
  obtain ⟨A1, c1, A2, c2, hb, h1, h2, h3, h4, h5⟩ := h
  have HR := Lib.hid hR
  have HD := Lib.hid hb
  have H1 := Lib.hid h1
  have H3 := Lib.hid h3
  have H4 := Lib.hid h4
  have H5 := Lib.hid h5
  have H2 := Lib.hid h2
  have HL := Lib.hid hl
  have HL2 := Lib.hid hl2
  have HLt := Lib.hid hb.lt
  have HM := Lib.hid hM
  have HF := Lib.hid hF
  have hsum : wrap64 (r.serial + 1) = r.serial + 1 := by unfold wrap64; omega
  have hs1 : r.serial + 1 ≤ 9223372036854775807 := by omega
  have hs2 : -9223372036854775808 ≤ r.serial + 1 := by omega
  clear hser hser0
  have hu34 := Try.underlying34
  have hu32 := Try.underlying32
  have hu30 := Try.underlying30
  have hu28 := Try.underlying28
  clear hb h1 h2 h3 h4 h5 hl hM hR hF hl2
  go_enter Try.func38, Try.ntmps38
  go_wp2_with fail
  refine gw (fun wa hwa => ?_)
  have HBa : Hid (Below w.heap.size w wa) := Lib.hid (by rw [← hwa]; exact (Below.refl _ _).alloc (Nat.le_refl _) _)
  have HX : Hid (Blk wa w.heap.size #[.int .i64 0, .int .i64 0, .int .i64 0, .bool false, .int .i64 0, .int .i64 0] 34) := Lib.hid (by rw [← hwa]; exact Blk.new _ _ _)
  clear hwa
  refine (rmayAt (HR.out.below HBa.out) HL.out x).mono ?_
  rintro e wb ⟨rfl, hb⟩
  rw [HM.out]
  have HBw : Hid (Below w.heap.size w wb) := Lib.hid (btrans HBa.out hb)
  have HXb := Lib.hid (HX.out.below hb)
  have HDb := Lib.hid (HD.out.below HBw.out)
  have H3b := Lib.hid (Kd.F_below H3.out HBw.out)
  have H4b := Lib.hid (Kd.F_below H4.out HBw.out)
  clear HBa HX hb HR HM
  go_wp2_with fail
  go_loopw [11] (fun i w' => ∃ m q : Nat, m ≤ F ∧ i = .int .i64 m ∧ w' = wb.drewN q) (fun i _ => F - (intOf i).toNat)
  case atStart => exact ⟨0, 0, Nat.zero_le _, rfl, rfl⟩
  case round =>
    obtain ⟨m, q, hm, rfl, hw⟩ := hrel
    have HDq : Hid (Blk wr D (rCells r A1 c1 A2 c2) 49) := Lib.hid (by rw [hw]; exact HDb.out.drewN q)
    have H3q : Hid (IRow wr S A1 r.lasts) := Lib.hid (by rw [hw]; exact Kd.F_drewN H3b.out q)
    have H4q : Hid (LRow wr S A2 r.l) := Lib.hid (by rw [hw]; exact Kd.F_drewN H4b.out q)
    have HXq : Hid (Blk wr w.heap.size #[.int .i64 0, .int .i64 0, .int .i64 0, .bool false, .int .i64 0, .int .i64 0] 34) := Lib.hid (by rw [hw]; exact HXb.out.drewN q)
    have HBq : Hid (Below w.heap.size w wr) := Lib.hid (by rw [hw]; exact bdn HBw.out q)
    have HW := Lib.hid hw
    clear hw
    have m2 : wr.cell? ⟨D, 2, none⟩ = some (.slice A1 r.lasts.length c1) := HDq.out.cell (j := 2) rfl
    have m3 : wr.cell? ⟨D, 3, none⟩ = some (.slice A2 r.l.length c2) := HDq.out.cell (j := 3) rfl
    by_cases hmF : m = F
    · obtain rfl : m = r.lasts.length := by omega
      have t1 : decide (((r.lasts.length : Nat) : Int) < (r.lasts.length : Int)) = false := decide_eq_false (by omega)
      clear hFle hm hN hmF
      go_wp2_with (first
        | (refine gate_dst (N := 48) rfl ?_; refine Kd.R_lit (Kd.int .i64) (w0 := wr) wr.heap.size 3 ?_ (N := 48) ?_ (xs := ([] : List Int)) (inner := []) (ok := fun k => wr.heap.size ≤ k) (okp := fun _ => False) ?_ ?_ (fun _ hk => hk.elim) (Nat.le_refl _) (Below.refl _ _) (Nat.le_refl _) (by simp) ?_; rfl; rfl; (next => first | (go_simp; done) | (go_simp; rfl)); exact Reps.none _ _; intro ve we hE hbE _ _; have HE := Lib.hid hE; have HBE := Lib.hid hbE; have m2e : we.cell? ⟨D, 2, none⟩ = some (.slice A1 r.lasts.length c1) := (HDq.out.below hbE).cell (j := 2) rfl; clear hE hbE)
        | ((with_reducible refine gate_builtin (b := .append) (xs := #[.tmp 48, .tmp 52]) rfl ?_); at_builtin; refine Kd.R_append_rows (Kd.int .i64) (w0 := wr) wr.heap.size rfl (.tmp 48) (.tmp 52) 47 3 (.int .i64 0) 8 rfl Try.underlying47 info3 rfl (by decide) (by decide) ve ([] : List Int) r.lasts _ _ _ (fun k => wr.heap.size ≤ k) (fun _ => False) rfl rfl ?aO ?aR (fun _ _ h => h) (fun _ h => h.elim) ?aF ?aB ?aS ?aL ?_; (case aO => exact HE.out); (case aR => exact Kd.F_now (Kd.F_below H3q.out HBE.out)); (case aF => exact (fun k hk => Nat.le_trans HBE.out.size hk)); (case aB => exact HBE.out); (case aS => exact HBE.out.size); (case aL => have := HL2.out; simp; omega); intro v5 w5 hR5 hB5 _ _; rw [List.nil_append] at hR5; obtain ⟨A5, c5, rfl, hc5, hC5⟩ := Kd.R_reads hR5; have HR5 := Lib.hid hR5; have HB5 := Lib.hid hB5; clear hR5 hB5 hc5 hC5)
        | ((with_reducible refine gate_builtin (b := .append) (xs := #[.tmp 58, .tmp 59]) rfl ?_); at_builtin; refine Kd.R_append (Kd.int .i64) (w0 := wr) wr.heap.size rfl (.tmp 58) (.tmp 59) 47 3 (.int .i64 0) 8 rfl Try.underlying47 info3 rfl (by decide) (by decide) _ r.lasts 0 [.int .i64 0] (fun k => wr.heap.size ≤ k) (fun _ => False) rfl rfl ?aP (fun k hk => hk.elim) ?aF ?aO ?aB ?aS ?aL ?_; (case aP => rfl); (case aF => exact (fun k hk => Nat.le_trans HB5.out.size hk)); (case aO => exact HR5.out); (case aB => exact HB5.out); (case aS => exact HB5.out.size); (case aL => have := HL2.out; omega); intro v7 w7 hR7 hB7 _ _; obtain ⟨g, c7, rfl, hg7, hgl7, _⟩ := Kd.R_form hR7 (by simp); have HR7 := Lib.hid hR7; have HB7 := Lib.hid hB7; have HG7 := Lib.hid (And.intro hg7 hgl7); obtain ⟨hce, hfe⟩ := own_cell hR7 (i := r.lasts.length) (v := 0) (by simp); have HD7 := Lib.hid (HDq.out.below hB7); have n2 := HD7.out.free 2; have m2d : w7.cell? ⟨D, 2, none⟩ = some (.slice A1 r.lasts.length c1) := HD7.out.cell (j := 2) rfl; have qg : D ≠ g := (by have := HDq.out.lt; omega); have qg2 : g ≠ D := fun e => qg e.symm; clear hR7 hB7 hg7 hgl7))
      refine gwP (fun w8 hw8 => ?_)
      have zr : w.heap.size ≤ wr.heap.size := HBq.out.size
      have zD := HLt.out
      have hgr := HG7.out.1
      have zq : w.heap.size < wr.heap.size := HXq.out.lt
      have C8 : Hid (Chg (fun k => k = D) wr w8) := Lib.hid (by
        rw [← hw8]
        exact Chg.set (S := fun k => k = D) (p := ⟨D, 2, none⟩) (Chg.set (S := fun k => k = D) (p := ⟨g, r.lasts.length, none⟩) (Chg.of_below HB7.out) (fun h => absurd h (by show ¬ g < wr.heap.size; omega)) _) (fun _ => rfl) _)
      have HR8 : Hid (Kd.R (Kd.int .i64) 3 w8 wr.heap.size (fun k => wr.heap.size ≤ k) (.slice (some ⟨g, 0, none⟩) (r.lasts.length + 1) c7) (r.lasts ++ [1])) := Lib.hid (by
        have h1 := own_put HR7.out r.lasts.length 1
        have e1 : (r.lasts ++ [0]).set r.lasts.length 1 = r.lasts ++ [1] := by simp
        have e2 : (r.lasts ++ [(0 : Int)]).length = r.lasts.length + 1 := by simp
        rw [e1, e2] at h1
        rw [← hw8]
        exact Kd.R_far h1 (p := ⟨D, 2, none⟩) (fun k hk => by show k ≠ D; have : wr.heap.size ≤ k := hk; have := HDq.out.lt; omega) _)
      have HD8 : Hid (Blk w8 D #[.int .i64 r.cap, .int .i64 r.serial, .slice (some ⟨g, 0, none⟩) (r.lasts.length + 1) c7, .slice A2 r.l.length c2] 49) := Lib.hid (by
        rw [← hw8]
        exact (HD7.out.far qg _).set 2 _)
      have HX8 := Lib.hid (HXq.out.keep C8.out (by omega))
      have H48 : Hid (LRow w8 S A2 r.l) := Lib.hid (Kd.F_step H4q.out (fun k hk hl => C8.out.block k hl (H5.out k hk).1))
      obtain ⟨hce8, hfe8⟩ := own_cell HR8.out (i := r.lasts.length) (v := 1) (by simp)
      have z8 := C8.out.size
      clear hw8 HR7 HB7 HG7 hce hfe HD7 n2 m2 m2d m3 HDq H3q H4q HXq HE HBE HR5 HB5 m2e
      have s1 : w8.cell? ⟨D, 1, none⟩ = some (.int .i64 r.serial) := HD8.out.cell (j := 1) rfl
      have s3 : w8.cell? ⟨D, 3, none⟩ = some (.slice A2 r.l.length c2) := HD8.out.cell (j := 3) rfl
      have hF0 : (0 : Int) ≤ (r.lasts.length : Nat) := by omega
      have hFN : ((r.lasts.length : Nat) : Int) < ((r.lasts.length : Nat) : Int) + 1 := by omega
      have s1a : ((w8.alloc (Obj.cells #[.int .i64 0, .int .i64 0, .int .i64 0, .bool false, .int .i64 0, .int .i64 0] 34)).drew).cell? ⟨D, 1, none⟩ = some (.int .i64 r.serial) := (HD8.out.alloc _).drew.cell (j := 1) rfl
      have c8a : ((w8.alloc (Obj.cells #[.int .i64 0, .int .i64 0, .int .i64 0, .bool false, .int .i64 0, .int .i64 0] 34)).drew).cell? ⟨g, r.lasts.length, none⟩ = some (.int .i64 1) := (own_cell (Kd.R_drew (Kd.R_alloc HR8.out _)) (i := r.lasts.length) (v := 1) (by simp)).1
      have eF : ((r.lasts.length : Nat) : Int).toNat = r.lasts.length := by omega
      go_region
      refine gwE (fun w9 hw9 => ?_)
      have C9 : Hid (Chg (fun k => k = D) wr w9) := Lib.hid (by rw [← hw9]; exact (C8.out.alloc _).drew)
      have HD9 : Hid (Blk w9 D #[.int .i64 r.cap, .int .i64 r.serial, .slice (some ⟨g, 0, none⟩) (r.lasts.length + 1) c7, .slice A2 r.l.length c2] 49) := Lib.hid (by rw [← hw9]; exact (HD8.out.alloc _).drew)
      have HX9 : Hid (Blk w9 w.heap.size #[.int .i64 0, .int .i64 0, .int .i64 0, .bool false, .int .i64 0, .int .i64 0] 34) := Lib.hid (by rw [← hw9]; exact (HX8.out.alloc _).drew)
      have HY9 : Hid (Blk w9 w8.heap.size #[.int .i64 (r.lasts.length : Nat), .int .i64 1, .int .i64 x, .bool true, .int .i64 key, .int .i64 r.serial] 34) := Lib.hid (by rw [← hw9]; exact (Blk.new _ _ _).drew)
      have HR9 : Hid (Kd.R (Kd.int .i64) 3 w9 wr.heap.size (fun k => wr.heap.size ≤ k) (.slice (some ⟨g, 0, none⟩) (r.lasts.length + 1) c7) (r.lasts ++ [1])) := Lib.hid (by rw [← hw9]; exact Kd.R_drew (Kd.R_alloc HR8.out _))
      have H49 : Hid (LRow w9 S A2 r.l) := Lib.hid (by rw [← hw9]; exact Kd.F_drew (Kd.F_alloc H48.out _))
      clear hw9 C8 HD8 HX8 HR8 H48 hce8 hfe8 s1 s3 s1a c8a hF0 hFN eF
      have s1 : w9.cell? ⟨D, 1, none⟩ = some (.int .i64 r.serial) := HD9.out.cell (j := 1) rfl
      have n1 := HD9.out.free 1
      go_wp2_with fail
      refine gwP (fun w10 hw10 => ?_)
      have z9 := C9.out.size
      have C10 : Hid (Chg (fun k => k = D) wr w10) := Lib.hid (by rw [← hw10]; exact Chg.set (S := fun k => k = D) (p := ⟨D, 1, none⟩) C9.out (fun _ => rfl) _)
      have HD10 : Hid (Blk w10 D #[.int .i64 r.cap, .int .i64 (r.serial + 1), .slice (some ⟨g, 0, none⟩) (r.lasts.length + 1) c7, .slice A2 r.l.length c2] 49) := Lib.hid (by rw [← hw10]; exact HD9.out.set 1 _)
      have HX10 : Hid (Blk w10 w.heap.size #[.int .i64 0, .int .i64 0, .int .i64 0, .bool false, .int .i64 0, .int .i64 0] 34) := Lib.hid (by rw [← hw10]; exact HX9.out.far (by show w.heap.size ≠ D; omega) _)
      have HY10 : Hid (Blk w10 w8.heap.size #[.int .i64 (r.lasts.length : Nat), .int .i64 1, .int .i64 x, .bool true, .int .i64 key, .int .i64 r.serial] 34) := Lib.hid (by rw [← hw10]; exact HY9.out.far (by show w8.heap.size ≠ D; omega) _)
      have HR10 : Hid (Kd.R (Kd.int .i64) 3 w10 wr.heap.size (fun k => wr.heap.size ≤ k) (.slice (some ⟨g, 0, none⟩) (r.lasts.length + 1) c7) (r.lasts ++ [1])) := Lib.hid (by rw [← hw10]; exact Kd.R_far HR9.out (p := ⟨D, 1, none⟩) (fun k hk => by show k ≠ D; have : wr.heap.size ≤ k := hk; omega) _)
      have H410 : Hid (LRow w10 S A2 r.l) := Lib.hid (by rw [← hw10]; exact Kd.F_far H49.out (p := ⟨D, 1, none⟩) (fun k hk => (H5.out k hk).1) _)
      have z10 := C10.out.size
      clear hw10 C9 HD9 HX9 HY9 HR9 H49 s1 n1
      have s3 : w10.cell? ⟨D, 3, none⟩ = some (.slice A2 r.l.length c2) := HD10.out.cell (j := 3) rfl
      have y0 := HY10.out.cell (j := 0) rfl
      have y1 := HY10.out.cell (j := 1) rfl
      have y2 := HY10.out.cell (j := 2) rfl
      have y3 := HY10.out.cell (j := 3) rfl
      have y4 := HY10.out.cell (j := 4) rfl
      have y5 := HY10.out.cell (j := 5) rfl
      have CA : Hid (Calls Try.prog 50 #[.slice A2 r.l.length c2, aggL ⟨⟨(r.lasts.length : Nat), 1⟩, ⟨x, true, key, r.serial⟩⟩] w10.drew fun e w' => ∃ A' c', e = .returned (.slice A' (addL r.l ⟨⟨(r.lasts.length : Nat), 1⟩, ⟨x, true, key, r.serial⟩⟩).length c') ∧ (addL r.l ⟨⟨(r.lasts.length : Nat), 1⟩, ⟨x, true, key, r.serial⟩⟩).length ≤ c' ∧
          LRow w' (fun k => w10.heap.size ≤ k ∧ k < w'.heap.size) A' (addL r.l ⟨⟨(r.lasts.length : Nat), 1⟩, ⟨x, true, key, r.serial⟩⟩) ∧ Below w10.heap.size w10 w') := Lib.hid ((refAdd_ (Kd.F_now (Kd.F_drew H410.out)) H2.out HL.out ⟨⟨(r.lasts.length : Nat), 1⟩, ⟨x, true, key, r.serial⟩⟩).mono (fun e w' ⟨A', c', a, b, c, d⟩ => ⟨A', c', a, b, c, (Below.refl _ _).drew.trans d⟩))
      go_region_with (go_at_call 50; refine CA.out.mono ?_; rintro e w6 ⟨A6, c6, rfl, hc6, hrow6, hb6⟩; have HC6 := Lib.hid hc6; have HRow6 := Lib.hid hrow6; have HB6 := Lib.hid hb6; have HD6 := Lib.hid (HD10.out.below hb6); have s3 : w6.cell? ⟨D, 3, none⟩ = some (.slice A2 r.l.length c2) := HD6.out.cell (j := 3) rfl; have n3 := HD6.out.free 3; clear hc6 hrow6 hb6)
      all_goals
        refine gwE (fun wz hwz => ?_)
        have z6 := HB6.out.size
        have C6 : Chg (fun k => k = D) wr w6 := C10.out.trans (Chg.of_below (S := fun _ => False) HB6.out) (fun _ _ h => h.elim)
        have CZ : Hid (Chg (fun k => k = D) wr wz) := Lib.hid (by rw [← hwz]; exact Chg.set (S := fun k => k = D) (p := ⟨D, 3, none⟩) C6 (fun _ => rfl) _)
        have HXz : Hid (Blk wz w.heap.size #[.int .i64 0, .int .i64 0, .int .i64 0, .bool false, .int .i64 0, .int .i64 0] 34) := Lib.hid (by rw [← hwz]; exact (HX10.out.below HB6.out).far (by show w.heap.size ≠ D; omega) _)
        have HYz : Hid (Blk wz w8.heap.size #[.int .i64 (r.lasts.length : Nat), .int .i64 1, .int .i64 x, .bool true, .int .i64 key, .int .i64 r.serial] 34) := Lib.hid (by rw [← hwz]; exact (HY10.out.below HB6.out).far (by show w8.heap.size ≠ D; omega) _)
        have HRz : Hid (RefAt wz (fun k => wr.heap.size ≤ k ∧ k < w6.heap.size) D ⟨r.cap, r.serial + 1, r.lasts ++ [1], addL r.l ⟨⟨(r.lasts.length : Nat), 1⟩, ⟨x, true, key, r.serial⟩⟩⟩) := Lib.hid (by
          have hI := Kd.F_mono (Kd.R_F (Kd.R_bound (Kd.R_below HR10.out HB6.out))) (ok' := fun k => wr.heap.size ≤ k ∧ k < w6.heap.size) (fun k hk => ⟨hk.2.1, hk.2.2.1⟩)
          have hlen : (r.lasts ++ [(1 : Int)]).length = r.lasts.length + 1 := by simp
          have hc := (Kd.R_reads' HR10.out).2.1
          rw [← hwz]
          have hne : ∀ k, wr.heap.size ≤ k ∧ k < w6.heap.size → k ≠ D := fun k hk => by have := hk.1; omega
          refine ⟨some ⟨g, 0, none⟩, c7, A6, c6, ?_, by rw [hlen]; exact hc, HC6.out, ?_, Kd.F_far (p := ⟨D, 3, none⟩) (Kd.F_mono HRow6.out (fun k hk => ⟨by have := hk.1; omega, hk.2⟩)) (fun k hk => hne k hk) _, fun k hk => ⟨hne k hk, by simpa [World.setCell] using hk.2⟩⟩
          · show Blk _ D #[.int .i64 r.cap, .int .i64 (r.serial + 1), .slice (some ⟨g, 0, none⟩) (r.lasts ++ [(1 : Int)]).length c7, .slice A6 (addL r.l ⟨⟨(r.lasts.length : Nat), 1⟩, ⟨x, true, key, r.serial⟩⟩).length c6] 49
            rw [hlen]
            exact HD6.out.set 3 _
          · show Kd.F (Kd.int .i64) _ _ (some ⟨g, 0, none⟩) (r.lasts ++ [(1 : Int)]).length (r.lasts ++ [1])
            rw [hlen]
            exact Kd.F_far (p := ⟨D, 3, none⟩) hI (fun k hk => hne k hk) _)
        clear hwz CA HB6 HRow6 HC6 HD6 HR10 H410 HX10 HY10 HD10 C10 C6 s3 n3 y0 y1 y2 y3 y4 y5
        have y0 := HYz.out.cell (j := 0) rfl
        have y1 := HYz.out.cell (j := 1) rfl
        have y2 := HYz.out.cell (j := 2) rfl
        have y3 := HYz.out.cell (j := 3) rfl
        have y4 := HYz.out.cell (j := 4) rfl
        have y5 := HYz.out.cell (j := 5) rfl
        have x0 := HXz.out.cell (j := 0) rfl
        have x1 := HXz.out.cell (j := 1) rfl
        have x2 := HXz.out.cell (j := 2) rfl
        have x3 := HXz.out.cell (j := 3) rfl
        have x4 := HXz.out.cell (j := 4) rfl
        have x5 := HXz.out.cell (j := 5) rfl
        have f0 := HXz.out.free 0
        have f1 := HXz.out.free 1
        have f2 := HXz.out.free 2
        have f3 := HXz.out.free 3
        have f4 := HXz.out.free 4
        have f5 := HXz.out.free 5
        go_wp2_with fail
        refine bodyPost_ret (results_ct rfl _ _ w.heap.size 34 _ (0, 0) _ rfl ((((((HXz.out.set 0 (.int .i64 (r.lasts.length : Nat))).set 1 (.int .i64 1)).set 2 (.int .i64 x)).set 3 (.bool true)).set 4 (.int .i64 key)).set 5 (.int .i64 r.serial)) Try.underlying34 rfl (by kernel_rfl)) rfl ?_
        have hD1 : ¬ D = w.heap.size := by omega
        refine ⟨rfl, ⟨_, HRz.out.keep (Z := fun k => k = w.heap.size) (chg6 (S := fun k => k = w.heap.size) (b := w.heap.size) (Chg.refl _ _) (fun _ => rfl) _ _ _ _ _ _) hD1 (fun k hk => by have := hk.1; omega), fun k hk => Or.inr (by have := hk.1; omega)⟩,
          chg6 (b := w.heap.size) ((Chg.of_below (S := fun k => k = D) HBq.out).trans CZ.out (fun _ _ h => h)) (fun h => absurd h (Nat.lt_irrefl _)) _ _ _ _ _ _⟩
    · have hmlt : m < r.lasts.length := by omega
      obtain ⟨u, hu⟩ : ∃ u, r.lasts[m]? = some u := ⟨_, List.getElem?_eq_getElem hmlt⟩
      obtain ⟨ad1, rfl, u0⟩ := irow_at (Kd.F_now H3q.out) hu
      have hbusy := HF.out m u (by omega) hu
      have tm : decide ((m : Int) < (r.lasts.length : Int)) = true := decide_eq_true (by omega)
      have tn : decide (r.lasts.length ≤ m) = false := decide_eq_false (by omega)
      have hi0 : (0 : Int) ≤ m := by omega
      have hiN : (m : Int) < r.lasts.length := by omega
      have ei : (m : Int).toNat = m := by omega
      have hM1 : m < 1000000 := by have := HL2.out; omega
      clear hu
      cases hsl : slotB r m with
      | true =>
        go_wp2_with fail
        refine (refSlot_ (Kd.F_now H4q.out) H2.out HL.out (m : Int)).mono ?_
        rintro e w' ⟨rfl, q2, rfl⟩
        rw [show r.l.any (fun y => y.r.i == (m : Int)) = true from hsl]
        go_wp2_with fail
        go_roundw
        case rel => exact ⟨m + 1, q + q2, by omega, by go_num, by rw [HW.out, World.drewN_drewN]⟩
        case measure => simp [intOf]; omega
      | false =>
        have hu2 : 4294967295 ≤ u := by
          rcases hbusy with h | h
          · rw [hsl] at h; cases h
          · exact h
        have t4 : decide ((4294967295 : Int) ≤ u) = true := decide_eq_true hu2
        go_wp2_with fail
        refine (refSlot_ (Kd.F_now H4q.out) H2.out HL.out (m : Int)).mono ?_
        rintro e w' ⟨rfl, q2, rfl⟩
        rw [show r.l.any (fun y => y.r.i == (m : Int)) = false from hsl]
        have HDz : Hid (Blk (wr.drewN q2) D (rCells r (some ad1) c1 A2 c2) 49) := Lib.hid (HDq.out.drewN q2)
        have m2z : (wr.drewN q2).cell? ⟨D, 2, none⟩ = some (.slice (some ad1) r.lasts.length c1) := HDz.out.cell (j := 2) rfl
        have u0z : (wr.drewN q2).cell? (ad1.add m) = some (.int .i64 u) := u0
        go_wp2_with fail
        go_roundw
        case rel => exact ⟨m + 1, q + q2, by omega, by go_num, by rw [HW.out, World.drewN_drewN]⟩
        case measure => simp [intOf]; omega

set_option maxRecDepth 100000 in
set_option maxHeartbeats 8000000 in
theorem rissue_new_f {w : World} {S : Nat → Prop} {D : Nat} {r : RTab} (h : RefAt w S D r) (hl : r.l.length ≤ 1000000) (hl2 : r.lasts.length ≤ 1000000) {x key : Int} (hM : rmay r x = 0) (hser : r.serial < 9223372036854775807) (hser0 : 0 ≤ r.serial) {F : Nat} (hF : ∀ j v, j < F → r.lasts[j]? = some v → slotB r j = true ∨ 4294967295 ≤ v) (hN : F = r.lasts.length) :
    Calls Try.prog 38 #[.pointer (some ⟨D, 0, none⟩), .int .i64 x, .bool false, .int .i64 key] w fun e w' => e = .returned (.tuple #[aggL ⟨⟨(r.lasts.length : Nat), 1⟩, ⟨x, false, 0, r.serial⟩⟩, .int .i64 0]) ∧ (∃ S', RefAt w' S' D ⟨r.cap, r.serial + 1, r.lasts ++ [1], addL r.l ⟨⟨(r.lasts.length : Nat), 1⟩, ⟨x, false, 0, r.serial⟩⟩⟩ ∧ ∀ k, S' k → Wide S w k) ∧ Chg (fun k => k = D) w w' := by
  have hR := h
  have hFle : F ≤ r.lasts.length := by omega
  obtain ⟨A1, c1, A2, c2, hb, h1, h2, h3, h4, h5⟩ := h
  have HR := Lib.hid hR
  have HD := Lib.hid hb
  have H1 := Lib.hid h1
  have H3 := Lib.hid h3
  have H4 := Lib.hid h4
  have H5 := Lib.hid h5
  have H2 := Lib.hid h2
  have HL := Lib.hid hl
  have HL2 := Lib.hid hl2
  have HLt := Lib.hid hb.lt
  have HM := Lib.hid hM
  have HF := Lib.hid hF
  have hsum : wrap64 (r.serial + 1) = r.serial + 1 := by unfold wrap64; omega
  have hs1 : r.serial + 1 ≤ 9223372036854775807 := by omega
  have hs2 : -9223372036854775808 ≤ r.serial + 1 := by omega
  clear hser hser0
  have hu34 := Try.underlying34
  have hu32 := Try.underlying32
  have hu30 := Try.underlying30
  have hu28 := Try.underlying28
  clear hb h1 h2 h3 h4 h5 hl hM hR hF hl2
  go_enter Try.func38, Try.ntmps38
  go_wp2_with fail
  refine gw (fun wa hwa => ?_)
  have HBa : Hid (Below w.heap.size w wa) := Lib.hid (by rw [← hwa]; exact (Below.refl _ _).alloc (Nat.le_refl _) _)
  have HX : Hid (Blk wa w.heap.size #[.int .i64 0, .int .i64 0, .int .i64 0, .bool false, .int .i64 0, .int .i64 0] 34) := Lib.hid (by rw [← hwa]; exact Blk.new _ _ _)
  clear hwa
  refine (rmayAt (HR.out.below HBa.out) HL.out x).mono ?_
  rintro e wb ⟨rfl, hb⟩
  rw [HM.out]
  have HBw : Hid (Below w.heap.size w wb) := Lib.hid (btrans HBa.out hb)
  have HXb := Lib.hid (HX.out.below hb)
  have HDb := Lib.hid (HD.out.below HBw.out)
  have H3b := Lib.hid (Kd.F_below H3.out HBw.out)
  have H4b := Lib.hid (Kd.F_below H4.out HBw.out)
  clear HBa HX hb HR HM
  go_wp2_with fail
  go_loopw [11] (fun i w' => ∃ m q : Nat, m ≤ F ∧ i = .int .i64 m ∧ w' = wb.drewN q) (fun i _ => F - (intOf i).toNat)
  case atStart => exact ⟨0, 0, Nat.zero_le _, rfl, rfl⟩
  case round =>
    obtain ⟨m, q, hm, rfl, hw⟩ := hrel
    have HDq : Hid (Blk wr D (rCells r A1 c1 A2 c2) 49) := Lib.hid (by rw [hw]; exact HDb.out.drewN q)
    have H3q : Hid (IRow wr S A1 r.lasts) := Lib.hid (by rw [hw]; exact Kd.F_drewN H3b.out q)
    have H4q : Hid (LRow wr S A2 r.l) := Lib.hid (by rw [hw]; exact Kd.F_drewN H4b.out q)
    have HXq : Hid (Blk wr w.heap.size #[.int .i64 0, .int .i64 0, .int .i64 0, .bool false, .int .i64 0, .int .i64 0] 34) := Lib.hid (by rw [hw]; exact HXb.out.drewN q)
    have HBq : Hid (Below w.heap.size w wr) := Lib.hid (by rw [hw]; exact bdn HBw.out q)
    have HW := Lib.hid hw
    clear hw
    have m2 : wr.cell? ⟨D, 2, none⟩ = some (.slice A1 r.lasts.length c1) := HDq.out.cell (j := 2) rfl
    have m3 : wr.cell? ⟨D, 3, none⟩ = some (.slice A2 r.l.length c2) := HDq.out.cell (j := 3) rfl
    by_cases hmF : m = F
    · obtain rfl : m = r.lasts.length := by omega
      have t1 : decide (((r.lasts.length : Nat) : Int) < (r.lasts.length : Int)) = false := decide_eq_false (by omega)
      clear hFle hm hN hmF
      go_wp2_with (first
        | (refine gate_dst (N := 48) rfl ?_; refine Kd.R_lit (Kd.int .i64) (w0 := wr) wr.heap.size 3 ?_ (N := 48) ?_ (xs := ([] : List Int)) (inner := []) (ok := fun k => wr.heap.size ≤ k) (okp := fun _ => False) ?_ ?_ (fun _ hk => hk.elim) (Nat.le_refl _) (Below.refl _ _) (Nat.le_refl _) (by simp) ?_; rfl; rfl; (next => first | (go_simp; done) | (go_simp; rfl)); exact Reps.none _ _; intro ve we hE hbE _ _; have HE := Lib.hid hE; have HBE := Lib.hid hbE; have m2e : we.cell? ⟨D, 2, none⟩ = some (.slice A1 r.lasts.length c1) := (HDq.out.below hbE).cell (j := 2) rfl; clear hE hbE)
        | ((with_reducible refine gate_builtin (b := .append) (xs := #[.tmp 48, .tmp 52]) rfl ?_); at_builtin; refine Kd.R_append_rows (Kd.int .i64) (w0 := wr) wr.heap.size rfl (.tmp 48) (.tmp 52) 47 3 (.int .i64 0) 8 rfl Try.underlying47 info3 rfl (by decide) (by decide) ve ([] : List Int) r.lasts _ _ _ (fun k => wr.heap.size ≤ k) (fun _ => False) rfl rfl ?aO ?aR (fun _ _ h => h) (fun _ h => h.elim) ?aF ?aB ?aS ?aL ?_; (case aO => exact HE.out); (case aR => exact Kd.F_now (Kd.F_below H3q.out HBE.out)); (case aF => exact (fun k hk => Nat.le_trans HBE.out.size hk)); (case aB => exact HBE.out); (case aS => exact HBE.out.size); (case aL => have := HL2.out; simp; omega); intro v5 w5 hR5 hB5 _ _; rw [List.nil_append] at hR5; obtain ⟨A5, c5, rfl, hc5, hC5⟩ := Kd.R_reads hR5; have HR5 := Lib.hid hR5; have HB5 := Lib.hid hB5; clear hR5 hB5 hc5 hC5)
        | ((with_reducible refine gate_builtin (b := .append) (xs := #[.tmp 58, .tmp 59]) rfl ?_); at_builtin; refine Kd.R_append (Kd.int .i64) (w0 := wr) wr.heap.size rfl (.tmp 58) (.tmp 59) 47 3 (.int .i64 0) 8 rfl Try.underlying47 info3 rfl (by decide) (by decide) _ r.lasts 0 [.int .i64 0] (fun k => wr.heap.size ≤ k) (fun _ => False) rfl rfl ?aP (fun k hk => hk.elim) ?aF ?aO ?aB ?aS ?aL ?_; (case aP => rfl); (case aF => exact (fun k hk => Nat.le_trans HB5.out.size hk)); (case aO => exact HR5.out); (case aB => exact HB5.out); (case aS => exact HB5.out.size); (case aL => have := HL2.out; omega); intro v7 w7 hR7 hB7 _ _; obtain ⟨g, c7, rfl, hg7, hgl7, _⟩ := Kd.R_form hR7 (by simp); have HR7 := Lib.hid hR7; have HB7 := Lib.hid hB7; have HG7 := Lib.hid (And.intro hg7 hgl7); obtain ⟨hce, hfe⟩ := own_cell hR7 (i := r.lasts.length) (v := 0) (by simp); have HD7 := Lib.hid (HDq.out.below hB7); have n2 := HD7.out.free 2; have m2d : w7.cell? ⟨D, 2, none⟩ = some (.slice A1 r.lasts.length c1) := HD7.out.cell (j := 2) rfl; have qg : D ≠ g := (by have := HDq.out.lt; omega); have qg2 : g ≠ D := fun e => qg e.symm; clear hR7 hB7 hg7 hgl7))
      refine gwP (fun w8 hw8 => ?_)
      have zr : w.heap.size ≤ wr.heap.size := HBq.out.size
      have zD := HLt.out
      have hgr := HG7.out.1
      have zq : w.heap.size < wr.heap.size := HXq.out.lt
      have C8 : Hid (Chg (fun k => k = D) wr w8) := Lib.hid (by
        rw [← hw8]
        exact Chg.set (S := fun k => k = D) (p := ⟨D, 2, none⟩) (Chg.set (S := fun k => k = D) (p := ⟨g, r.lasts.length, none⟩) (Chg.of_below HB7.out) (fun h => absurd h (by show ¬ g < wr.heap.size; omega)) _) (fun _ => rfl) _)
      have HR8 : Hid (Kd.R (Kd.int .i64) 3 w8 wr.heap.size (fun k => wr.heap.size ≤ k) (.slice (some ⟨g, 0, none⟩) (r.lasts.length + 1) c7) (r.lasts ++ [1])) := Lib.hid (by
        have h1 := own_put HR7.out r.lasts.length 1
        have e1 : (r.lasts ++ [0]).set r.lasts.length 1 = r.lasts ++ [1] := by simp
        have e2 : (r.lasts ++ [(0 : Int)]).length = r.lasts.length + 1 := by simp
        rw [e1, e2] at h1
        rw [← hw8]
        exact Kd.R_far h1 (p := ⟨D, 2, none⟩) (fun k hk => by show k ≠ D; have : wr.heap.size ≤ k := hk; have := HDq.out.lt; omega) _)
      have HD8 : Hid (Blk w8 D #[.int .i64 r.cap, .int .i64 r.serial, .slice (some ⟨g, 0, none⟩) (r.lasts.length + 1) c7, .slice A2 r.l.length c2] 49) := Lib.hid (by
        rw [← hw8]
        exact (HD7.out.far qg _).set 2 _)
      have HX8 := Lib.hid (HXq.out.keep C8.out (by omega))
      have H48 : Hid (LRow w8 S A2 r.l) := Lib.hid (Kd.F_step H4q.out (fun k hk hl => C8.out.block k hl (H5.out k hk).1))
      obtain ⟨hce8, hfe8⟩ := own_cell HR8.out (i := r.lasts.length) (v := 1) (by simp)
      have z8 := C8.out.size
      clear hw8 HR7 HB7 HG7 hce hfe HD7 n2 m2 m2d m3 HDq H3q H4q HXq HE HBE HR5 HB5 m2e
      have s1 : w8.cell? ⟨D, 1, none⟩ = some (.int .i64 r.serial) := HD8.out.cell (j := 1) rfl
      have s3 : w8.cell? ⟨D, 3, none⟩ = some (.slice A2 r.l.length c2) := HD8.out.cell (j := 3) rfl
      have hF0 : (0 : Int) ≤ (r.lasts.length : Nat) := by omega
      have hFN : ((r.lasts.length : Nat) : Int) < ((r.lasts.length : Nat) : Int) + 1 := by omega
      have s1a : ((w8.alloc (Obj.cells #[.int .i64 0, .int .i64 0, .int .i64 0, .bool false, .int .i64 0, .int .i64 0] 34)).drew).cell? ⟨D, 1, none⟩ = some (.int .i64 r.serial) := (HD8.out.alloc _).drew.cell (j := 1) rfl
      have c8a : ((w8.alloc (Obj.cells #[.int .i64 0, .int .i64 0, .int .i64 0, .bool false, .int .i64 0, .int .i64 0] 34)).drew).cell? ⟨g, r.lasts.length, none⟩ = some (.int .i64 1) := (own_cell (Kd.R_drew (Kd.R_alloc HR8.out _)) (i := r.lasts.length) (v := 1) (by simp)).1
      have eF : ((r.lasts.length : Nat) : Int).toNat = r.lasts.length := by omega
      go_region
      refine gwE (fun w9 hw9 => ?_)
      have C9 : Hid (Chg (fun k => k = D) wr w9) := Lib.hid (by rw [← hw9]; exact (C8.out.alloc _).drew)
      have HD9 : Hid (Blk w9 D #[.int .i64 r.cap, .int .i64 r.serial, .slice (some ⟨g, 0, none⟩) (r.lasts.length + 1) c7, .slice A2 r.l.length c2] 49) := Lib.hid (by rw [← hw9]; exact (HD8.out.alloc _).drew)
      have HX9 : Hid (Blk w9 w.heap.size #[.int .i64 0, .int .i64 0, .int .i64 0, .bool false, .int .i64 0, .int .i64 0] 34) := Lib.hid (by rw [← hw9]; exact (HX8.out.alloc _).drew)
      have HY9 : Hid (Blk w9 w8.heap.size #[.int .i64 (r.lasts.length : Nat), .int .i64 1, .int .i64 x, .bool false, .int .i64 0, .int .i64 r.serial] 34) := Lib.hid (by rw [← hw9]; exact (Blk.new _ _ _).drew)
      have HR9 : Hid (Kd.R (Kd.int .i64) 3 w9 wr.heap.size (fun k => wr.heap.size ≤ k) (.slice (some ⟨g, 0, none⟩) (r.lasts.length + 1) c7) (r.lasts ++ [1])) := Lib.hid (by rw [← hw9]; exact Kd.R_drew (Kd.R_alloc HR8.out _))
      have H49 : Hid (LRow w9 S A2 r.l) := Lib.hid (by rw [← hw9]; exact Kd.F_drew (Kd.F_alloc H48.out _))
      clear hw9 C8 HD8 HX8 HR8 H48 hce8 hfe8 s1 s3 s1a c8a hF0 hFN eF
      have s1 : w9.cell? ⟨D, 1, none⟩ = some (.int .i64 r.serial) := HD9.out.cell (j := 1) rfl
      have n1 := HD9.out.free 1
      go_wp2_with fail
      refine gwP (fun w10 hw10 => ?_)
      have z9 := C9.out.size
      have C10 : Hid (Chg (fun k => k = D) wr w10) := Lib.hid (by rw [← hw10]; exact Chg.set (S := fun k => k = D) (p := ⟨D, 1, none⟩) C9.out (fun _ => rfl) _)
      have HD10 : Hid (Blk w10 D #[.int .i64 r.cap, .int .i64 (r.serial + 1), .slice (some ⟨g, 0, none⟩) (r.lasts.length + 1) c7, .slice A2 r.l.length c2] 49) := Lib.hid (by rw [← hw10]; exact HD9.out.set 1 _)
      have HX10 : Hid (Blk w10 w.heap.size #[.int .i64 0, .int .i64 0, .int .i64 0, .bool false, .int .i64 0, .int .i64 0] 34) := Lib.hid (by rw [← hw10]; exact HX9.out.far (by show w.heap.size ≠ D; omega) _)
      have HY10 : Hid (Blk w10 w8.heap.size #[.int .i64 (r.lasts.length : Nat), .int .i64 1, .int .i64 x, .bool false, .int .i64 0, .int .i64 r.serial] 34) := Lib.hid (by rw [← hw10]; exact HY9.out.far (by show w8.heap.size ≠ D; omega) _)
      have HR10 : Hid (Kd.R (Kd.int .i64) 3 w10 wr.heap.size (fun k => wr.heap.size ≤ k) (.slice (some ⟨g, 0, none⟩) (r.lasts.length + 1) c7) (r.lasts ++ [1])) := Lib.hid (by rw [← hw10]; exact Kd.R_far HR9.out (p := ⟨D, 1, none⟩) (fun k hk => by show k ≠ D; have : wr.heap.size ≤ k := hk; omega) _)
      have H410 : Hid (LRow w10 S A2 r.l) := Lib.hid (by rw [← hw10]; exact Kd.F_far H49.out (p := ⟨D, 1, none⟩) (fun k hk => (H5.out k hk).1) _)
      have z10 := C10.out.size
      clear hw10 C9 HD9 HX9 HY9 HR9 H49 s1 n1
      have s3 : w10.cell? ⟨D, 3, none⟩ = some (.slice A2 r.l.length c2) := HD10.out.cell (j := 3) rfl
      have y0 := HY10.out.cell (j := 0) rfl
      have y1 := HY10.out.cell (j := 1) rfl
      have y2 := HY10.out.cell (j := 2) rfl
      have y3 := HY10.out.cell (j := 3) rfl
      have y4 := HY10.out.cell (j := 4) rfl
      have y5 := HY10.out.cell (j := 5) rfl
      have CA : Hid (Calls Try.prog 50 #[.slice A2 r.l.length c2, aggL ⟨⟨(r.lasts.length : Nat), 1⟩, ⟨x, false, 0, r.serial⟩⟩] w10.drew fun e w' => ∃ A' c', e = .returned (.slice A' (addL r.l ⟨⟨(r.lasts.length : Nat), 1⟩, ⟨x, false, 0, r.serial⟩⟩).length c') ∧ (addL r.l ⟨⟨(r.lasts.length : Nat), 1⟩, ⟨x, false, 0, r.serial⟩⟩).length ≤ c' ∧
          LRow w' (fun k => w10.heap.size ≤ k ∧ k < w'.heap.size) A' (addL r.l ⟨⟨(r.lasts.length : Nat), 1⟩, ⟨x, false, 0, r.serial⟩⟩) ∧ Below w10.heap.size w10 w') := Lib.hid ((refAdd_ (Kd.F_now (Kd.F_drew H410.out)) H2.out HL.out ⟨⟨(r.lasts.length : Nat), 1⟩, ⟨x, false, 0, r.serial⟩⟩).mono (fun e w' ⟨A', c', a, b, c, d⟩ => ⟨A', c', a, b, c, (Below.refl _ _).drew.trans d⟩))
      go_region_with (go_at_call 50; refine CA.out.mono ?_; rintro e w6 ⟨A6, c6, rfl, hc6, hrow6, hb6⟩; have HC6 := Lib.hid hc6; have HRow6 := Lib.hid hrow6; have HB6 := Lib.hid hb6; have HD6 := Lib.hid (HD10.out.below hb6); have s3 : w6.cell? ⟨D, 3, none⟩ = some (.slice A2 r.l.length c2) := HD6.out.cell (j := 3) rfl; have n3 := HD6.out.free 3; clear hc6 hrow6 hb6)
      all_goals
        refine gwE (fun wz hwz => ?_)
        have z6 := HB6.out.size
        have C6 : Chg (fun k => k = D) wr w6 := C10.out.trans (Chg.of_below (S := fun _ => False) HB6.out) (fun _ _ h => h.elim)
        have CZ : Hid (Chg (fun k => k = D) wr wz) := Lib.hid (by rw [← hwz]; exact Chg.set (S := fun k => k = D) (p := ⟨D, 3, none⟩) C6 (fun _ => rfl) _)
        have HXz : Hid (Blk wz w.heap.size #[.int .i64 0, .int .i64 0, .int .i64 0, .bool false, .int .i64 0, .int .i64 0] 34) := Lib.hid (by rw [← hwz]; exact (HX10.out.below HB6.out).far (by show w.heap.size ≠ D; omega) _)
        have HYz : Hid (Blk wz w8.heap.size #[.int .i64 (r.lasts.length : Nat), .int .i64 1, .int .i64 x, .bool false, .int .i64 0, .int .i64 r.serial] 34) := Lib.hid (by rw [← hwz]; exact (HY10.out.below HB6.out).far (by show w8.heap.size ≠ D; omega) _)
        have HRz : Hid (RefAt wz (fun k => wr.heap.size ≤ k ∧ k < w6.heap.size) D ⟨r.cap, r.serial + 1, r.lasts ++ [1], addL r.l ⟨⟨(r.lasts.length : Nat), 1⟩, ⟨x, false, 0, r.serial⟩⟩⟩) := Lib.hid (by
          have hI := Kd.F_mono (Kd.R_F (Kd.R_bound (Kd.R_below HR10.out HB6.out))) (ok' := fun k => wr.heap.size ≤ k ∧ k < w6.heap.size) (fun k hk => ⟨hk.2.1, hk.2.2.1⟩)
          have hlen : (r.lasts ++ [(1 : Int)]).length = r.lasts.length + 1 := by simp
          have hc := (Kd.R_reads' HR10.out).2.1
          rw [← hwz]
          have hne : ∀ k, wr.heap.size ≤ k ∧ k < w6.heap.size → k ≠ D := fun k hk => by have := hk.1; omega
          refine ⟨some ⟨g, 0, none⟩, c7, A6, c6, ?_, by rw [hlen]; exact hc, HC6.out, ?_, Kd.F_far (p := ⟨D, 3, none⟩) (Kd.F_mono HRow6.out (fun k hk => ⟨by have := hk.1; omega, hk.2⟩)) (fun k hk => hne k hk) _, fun k hk => ⟨hne k hk, by simpa [World.setCell] using hk.2⟩⟩
          · show Blk _ D #[.int .i64 r.cap, .int .i64 (r.serial + 1), .slice (some ⟨g, 0, none⟩) (r.lasts ++ [(1 : Int)]).length c7, .slice A6 (addL r.l ⟨⟨(r.lasts.length : Nat), 1⟩, ⟨x, false, 0, r.serial⟩⟩).length c6] 49
            rw [hlen]
            exact HD6.out.set 3 _
          · show Kd.F (Kd.int .i64) _ _ (some ⟨g, 0, none⟩) (r.lasts ++ [(1 : Int)]).length (r.lasts ++ [1])
            rw [hlen]
            exact Kd.F_far (p := ⟨D, 3, none⟩) hI (fun k hk => hne k hk) _)
        clear hwz CA HB6 HRow6 HC6 HD6 HR10 H410 HX10 HY10 HD10 C10 C6 s3 n3 y0 y1 y2 y3 y4 y5
        have y0 := HYz.out.cell (j := 0) rfl
        have y1 := HYz.out.cell (j := 1) rfl
        have y2 := HYz.out.cell (j := 2) rfl
        have y3 := HYz.out.cell (j := 3) rfl
        have y4 := HYz.out.cell (j := 4) rfl
        have y5 := HYz.out.cell (j := 5) rfl
        have x0 := HXz.out.cell (j := 0) rfl
        have x1 := HXz.out.cell (j := 1) rfl
        have x2 := HXz.out.cell (j := 2) rfl
        have x3 := HXz.out.cell (j := 3) rfl
        have x4 := HXz.out.cell (j := 4) rfl
        have x5 := HXz.out.cell (j := 5) rfl
        have f0 := HXz.out.free 0
        have f1 := HXz.out.free 1
        have f2 := HXz.out.free 2
        have f3 := HXz.out.free 3
        have f4 := HXz.out.free 4
        have f5 := HXz.out.free 5
        go_wp2_with fail
        refine bodyPost_ret (results_ct rfl _ _ w.heap.size 34 _ (0, 0) _ rfl ((((((HXz.out.set 0 (.int .i64 (r.lasts.length : Nat))).set 1 (.int .i64 1)).set 2 (.int .i64 x)).set 3 (.bool false)).set 4 (.int .i64 0)).set 5 (.int .i64 r.serial)) Try.underlying34 rfl (by kernel_rfl)) rfl ?_
        have hD1 : ¬ D = w.heap.size := by omega
        refine ⟨rfl, ⟨_, HRz.out.keep (Z := fun k => k = w.heap.size) (chg6 (S := fun k => k = w.heap.size) (b := w.heap.size) (Chg.refl _ _) (fun _ => rfl) _ _ _ _ _ _) hD1 (fun k hk => by have := hk.1; omega), fun k hk => Or.inr (by have := hk.1; omega)⟩,
          chg6 (b := w.heap.size) ((Chg.of_below (S := fun k => k = D) HBq.out).trans CZ.out (fun _ _ h => h)) (fun h => absurd h (Nat.lt_irrefl _)) _ _ _ _ _ _⟩
    · have hmlt : m < r.lasts.length := by omega
      obtain ⟨u, hu⟩ : ∃ u, r.lasts[m]? = some u := ⟨_, List.getElem?_eq_getElem hmlt⟩
      obtain ⟨ad1, rfl, u0⟩ := irow_at (Kd.F_now H3q.out) hu
      have hbusy := HF.out m u (by omega) hu
      have tm : decide ((m : Int) < (r.lasts.length : Int)) = true := decide_eq_true (by omega)
      have tn : decide (r.lasts.length ≤ m) = false := decide_eq_false (by omega)
      have hi0 : (0 : Int) ≤ m := by omega
      have hiN : (m : Int) < r.lasts.length := by omega
      have ei : (m : Int).toNat = m := by omega
      have hM1 : m < 1000000 := by have := HL2.out; omega
      clear hu
      cases hsl : slotB r m with
      | true =>
        go_wp2_with fail
        refine (refSlot_ (Kd.F_now H4q.out) H2.out HL.out (m : Int)).mono ?_
        rintro e w' ⟨rfl, q2, rfl⟩
        rw [show r.l.any (fun y => y.r.i == (m : Int)) = true from hsl]
        go_wp2_with fail
        go_roundw
        case rel => exact ⟨m + 1, q + q2, by omega, by go_num, by rw [HW.out, World.drewN_drewN]⟩
        case measure => simp [intOf]; omega
      | false =>
        have hu2 : 4294967295 ≤ u := by
          rcases hbusy with h | h
          · rw [hsl] at h; cases h
          · exact h
        have t4 : decide ((4294967295 : Int) ≤ u) = true := decide_eq_true hu2
        go_wp2_with fail
        refine (refSlot_ (Kd.F_now H4q.out) H2.out HL.out (m : Int)).mono ?_
        rintro e w' ⟨rfl, q2, rfl⟩
        rw [show r.l.any (fun y => y.r.i == (m : Int)) = false from hsl]
        have HDz : Hid (Blk (wr.drewN q2) D (rCells r (some ad1) c1 A2 c2) 49) := Lib.hid (HDq.out.drewN q2)
        have m2z : (wr.drewN q2).cell? ⟨D, 2, none⟩ = some (.slice (some ad1) r.lasts.length c1) := HDz.out.cell (j := 2) rfl
        have u0z : (wr.drewN q2).cell? (ad1.add m) = some (.int .i64 u) := u0
        go_wp2_with fail
        go_roundw
        case rel => exact ⟨m + 1, q + q2, by omega, by go_num, by rw [HW.out, World.drewN_drewN]⟩
        case measure => simp [intOf]; omega
end Go.Proofs.Ytccfjjaljckinaa.Tag
/- The document's table: one more: the way through. No conditions. -/
namespace Go.Proofs.Ytccfjjaljckinaa.Tag
open Go.RowKit Go.Lib Go.Proofs.Ytccfjjaljckinaa.Mem Go.Proofs.Ytccfjjaljckinaa.IMap Go.Proofs.YtccfjjaljckinaaW.PrintWords Go.Proofs.Ytccfjjaljckinaa.PTagActs
set_option maxRecDepth 100000 in
set_option maxHeartbeats 8000000 in
theorem rissue_old_t {w : World} {S : Nat → Prop} {D : Nat} {r : RTab} (h : RefAt w S D r) (hl : r.l.length ≤ 1000000) (hl2 : r.lasts.length ≤ 1000000) {x key : Int} (hM : rmay r x = 0) (hser : r.serial < 9223372036854775807) (hser0 : 0 ≤ r.serial) {F : Nat} (hF : ∀ j v, j < F → r.lasts[j]? = some v → slotB r j = true ∨ 4294967295 ≤ v) {v : Int} (hN : r.lasts[F]? = some v) (hs : slotB r F = false) (hv : v < 4294967295) (hv0 : 0 ≤ v) :
    Calls Try.prog 38 #[.pointer (some ⟨D, 0, none⟩), .int .i64 x, .bool true, .int .i64 key] w fun e w' => e = .returned (.tuple #[aggL ⟨⟨(F : Nat), v + 1⟩, ⟨x, true, key, r.serial⟩⟩, .int .i64 0]) ∧ (∃ S', RefAt w' S' D ⟨r.cap, r.serial + 1, r.lasts.set F (v + 1), addL r.l ⟨⟨(F : Nat), v + 1⟩, ⟨x, true, key, r.serial⟩⟩⟩ ∧ ∀ k, S' k → Wide S w k) ∧ Chg (fun k => k = D) w w' := by
  have hR := h
  have hFle : F ≤ r.lasts.length := by have := (List.getElem?_eq_some_iff.1 hN).1; omega
  obtain ⟨A1, c1, A2, c2, hb, h1, h2, h3, h4, h5⟩ := h
  have HR := Lib.hid hR
  have HD := Lib.hid hb
  have H1 := Lib.hid h1
  have H3 := Lib.hid h3
  have H4 := Lib.hid h4
  have H5 := Lib.hid h5
  have H2 := Lib.hid h2
  have HL := Lib.hid hl
  have HL2 := Lib.hid hl2
  have HLt := Lib.hid hb.lt
  have HM := Lib.hid hM
  have HF := Lib.hid hF
  have hsum : wrap64 (r.serial + 1) = r.serial + 1 := by unfold wrap64; omega
  have hs1 : r.serial + 1 ≤ 9223372036854775807 := by omega
  have hs2 : -9223372036854775808 ≤ r.serial + 1 := by omega
  clear hser hser0
  have hu34 := Try.underlying34
  have hu32 := Try.underlying32
  have hu30 := Try.underlying30
  have hu28 := Try.underlying28
  clear hb h1 h2 h3 h4 h5 hl hM hR hF hl2
  go_enter Try.func38, Try.ntmps38
  go_wp2_with fail
  refine gw (fun wa hwa => ?_)
  have HBa : Hid (Below w.heap.size w wa) := Lib.hid (by rw [← hwa]; exact (Below.refl _ _).alloc (Nat.le_refl _) _)
  have HX : Hid (Blk wa w.heap.size #[.int .i64 0, .int .i64 0, .int .i64 0, .bool false, .int .i64 0, .int .i64 0] 34) := Lib.hid (by rw [← hwa]; exact Blk.new _ _ _)
  clear hwa
  refine (rmayAt (HR.out.below HBa.out) HL.out x).mono ?_
  rintro e wb ⟨rfl, hb⟩
  rw [HM.out]
  have HBw : Hid (Below w.heap.size w wb) := Lib.hid (btrans HBa.out hb)
  have HXb := Lib.hid (HX.out.below hb)
  have HDb := Lib.hid (HD.out.below HBw.out)
  have H3b := Lib.hid (Kd.F_below H3.out HBw.out)
  have H4b := Lib.hid (Kd.F_below H4.out HBw.out)
  clear HBa HX hb HR HM
  go_wp2_with fail
  go_loopw [11] (fun i w' => ∃ m q : Nat, m ≤ F ∧ i = .int .i64 m ∧ w' = wb.drewN q) (fun i _ => F - (intOf i).toNat)
  case atStart => exact ⟨0, 0, Nat.zero_le _, rfl, rfl⟩
  case round =>
    obtain ⟨m, q, hm, rfl, hw⟩ := hrel
    have HDq : Hid (Blk wr D (rCells r A1 c1 A2 c2) 49) := Lib.hid (by rw [hw]; exact HDb.out.drewN q)
    have H3q : Hid (IRow wr S A1 r.lasts) := Lib.hid (by rw [hw]; exact Kd.F_drewN H3b.out q)
    have H4q : Hid (LRow wr S A2 r.l) := Lib.hid (by rw [hw]; exact Kd.F_drewN H4b.out q)
    have HXq : Hid (Blk wr w.heap.size #[.int .i64 0, .int .i64 0, .int .i64 0, .bool false, .int .i64 0, .int .i64 0] 34) := Lib.hid (by rw [hw]; exact HXb.out.drewN q)
    have HBq : Hid (Below w.heap.size w wr) := Lib.hid (by rw [hw]; exact bdn HBw.out q)
    have HW := Lib.hid hw
    clear hw
    have m2 : wr.cell? ⟨D, 2, none⟩ = some (.slice A1 r.lasts.length c1) := HDq.out.cell (j := 2) rfl
    have m3 : wr.cell? ⟨D, 3, none⟩ = some (.slice A2 r.l.length c2) := HDq.out.cell (j := 3) rfl
    by_cases hmF : m = F
    · have hmF' : F = m := hmF.symm
      subst hmF'
      clear hmF
      have hmlt : F < r.lasts.length := (List.getElem?_eq_some_iff.1 hN).1
      obtain ⟨ad1, rfl, u0⟩ := irow_at (Kd.F_now H3q.out) hN
      have tm : decide ((F : Int) < (r.lasts.length : Int)) = true := decide_eq_true (by omega)
      have tn : decide (r.lasts.length ≤ F) = false := decide_eq_false (by omega)
      have tz : ((F : Int) == (r.lasts.length : Int)) = false := beq_eq_false_iff_ne.2 (by omega)
      have t4 : decide ((4294967295 : Int) ≤ v) = false := decide_eq_false (by omega)
      have hi0 : (0 : Int) ≤ F := by omega
      have hiN : (F : Int) < r.lasts.length := by omega
      have ei : (F : Int).toNat = F := by omega
      have hM1 : F < 1000000 := by have := HL2.out; omega
      have hv1 : wrap64 (v + 1) = v + 1 := by unfold wrap64; omega
      have hv2 : v + 1 ≤ 4294967295 := by omega
      have HNv := Lib.hid hN
      have HIl := Lib.hid hmlt
      have HSet : Hid ((r.lasts.set F (v + 1))[F]? = some (v + 1)) := Lib.hid (by simp [hmlt])
      clear hN hFle hm hv hmlt
      go_wp2_with fail
      refine (refSlot_ (Kd.F_now H4q.out) H2.out HL.out (F : Int)).mono ?_
      rintro e w' ⟨rfl, q2, rfl⟩
      rw [show r.l.any (fun y => y.r.i == (F : Int)) = false from hs]
      have HDy : Hid (Blk (wr.drewN q2) D (rCells r (some ad1) c1 A2 c2) 49) := Lib.hid (HDq.out.drewN q2)
      have H3y := Lib.hid (Kd.F_drewN H3q.out q2)
      have H4y := Lib.hid (Kd.F_drewN H4q.out q2)
      have HXy : Hid (Blk (wr.drewN q2) w.heap.size _ 34) := Lib.hid (HXq.out.drewN q2)
      have HBy : Hid (Below w.heap.size w (wr.drewN q2)) := Lib.hid (bdn HBq.out q2)
      have u0y : (wr.drewN q2).cell? (ad1.add F) = some (.int .i64 v) := u0
      clear HDq H3q H4q HXq HBq m2 m3 u0 HW
      generalize wr.drewN q2 = wy at *
      have m2 : wy.cell? ⟨D, 2, none⟩ = some (.slice (some ad1) r.lasts.length c1) := HDy.out.cell (j := 2) rfl
      have m3 : wy.cell? ⟨D, 3, none⟩ = some (.slice A2 r.l.length c2) := HDy.out.cell (j := 3) rfl
      go_wp2_with (first
        | (refine gate_dst (N := 48) rfl ?_; refine Kd.R_lit (Kd.int .i64) (w0 := wy) wy.heap.size 3 ?_ (N := 48) ?_ (xs := ([] : List Int)) (inner := []) (ok := fun k => wy.heap.size ≤ k) (okp := fun _ => False) ?_ ?_ (fun _ hk => hk.elim) (Nat.le_refl _) (Below.refl _ _) (Nat.le_refl _) (by simp) ?_; rfl; rfl; (next => first | (go_simp; done) | (go_simp; rfl)); exact Reps.none _ _; intro ve we hE hbE _ _; have HE := Lib.hid hE; have HBE := Lib.hid hbE; have m2e : we.cell? ⟨D, 2, none⟩ = some (.slice (some ad1) r.lasts.length c1) := (HDy.out.below hbE).cell (j := 2) rfl; clear hE hbE)
        | ((with_reducible refine gate_builtin (b := .append) (xs := #[.tmp 48, .tmp 52]) rfl ?_); at_builtin; refine Kd.R_append_rows (Kd.int .i64) (w0 := wy) wy.heap.size rfl (.tmp 48) (.tmp 52) 47 3 (.int .i64 0) 8 rfl Try.underlying47 info3 rfl (by decide) (by decide) ve ([] : List Int) r.lasts _ _ _ (fun k => wy.heap.size ≤ k) (fun _ => False) rfl rfl ?aO ?aR (fun _ _ h => h) (fun _ h => h.elim) ?aF ?aB ?aS ?aL ?_; (case aO => exact HE.out); (case aR => exact Kd.F_now (Kd.F_below H3y.out HBE.out)); (case aF => exact (fun k hk => Nat.le_trans HBE.out.size hk)); (case aB => exact HBE.out); (case aS => exact HBE.out.size); (case aL => have := HL2.out; simp; omega); intro v5 w7 hR5 hB5 _ _; rw [List.nil_append] at hR5; have hR7 := hR5; have hB7 := hB5; obtain ⟨g, c7, rfl, hg7, hgl7, _⟩ := Kd.R_form hR7 (by have := HIl.out; omega); have HR7 := Lib.hid hR7; have HB7 := Lib.hid hB7; have HG7 := Lib.hid (And.intro hg7 hgl7); obtain ⟨hce, hfe⟩ := own_cell hR7 (i := F) (v := v) HNv.out; have HD7 := Lib.hid (HDy.out.below hB7); have n2 := HD7.out.free 2; have m2d : w7.cell? ⟨D, 2, none⟩ = some (.slice (some ad1) r.lasts.length c1) := HD7.out.cell (j := 2) rfl; have qg : D ≠ g := (by have := HDy.out.lt; omega); have qg2 : g ≠ D := fun e => qg e.symm; clear hR5 hB5 hR7 hB7 hg7 hgl7))
      refine gwP (fun w8 hw8 => ?_)
      have zr : w.heap.size ≤ wy.heap.size := HBy.out.size
      have zD := HLt.out
      have hgr := HG7.out.1
      have zq : w.heap.size < wy.heap.size := HXy.out.lt
      have C8 : Hid (Chg (fun k => k = D) wy w8) := Lib.hid (by
        rw [← hw8]
        exact Chg.set (S := fun k => k = D) (p := ⟨D, 2, none⟩) (Chg.set (S := fun k => k = D) (p := ⟨g, F, none⟩) (Chg.of_below HB7.out) (fun h => absurd h (by show ¬ g < wy.heap.size; omega)) _) (fun _ => rfl) _)
      have HR8 : Hid (Kd.R (Kd.int .i64) 3 w8 wy.heap.size (fun k => wy.heap.size ≤ k) (.slice (some ⟨g, 0, none⟩) r.lasts.length c7) (r.lasts.set F (v + 1))) := Lib.hid (by
        have h1 := own_put HR7.out F (v + 1)
        rw [← hw8]
        exact Kd.R_far h1 (p := ⟨D, 2, none⟩) (fun k hk => by show k ≠ D; have : wy.heap.size ≤ k := hk; have := HDy.out.lt; omega) _)
      have HD8 : Hid (Blk w8 D #[.int .i64 r.cap, .int .i64 r.serial, .slice (some ⟨g, 0, none⟩) r.lasts.length c7, .slice A2 r.l.length c2] 49) := Lib.hid (by
        rw [← hw8]
        exact (HD7.out.far qg _).set 2 _)
      have HX8 := Lib.hid (HXy.out.keep C8.out (by omega))
      have H48 : Hid (LRow w8 S A2 r.l) := Lib.hid (Kd.F_step H4y.out (fun k hk hl => C8.out.block k hl (H5.out k hk).1))
      obtain ⟨hce8, hfe8⟩ := own_cell HR8.out (i := F) (v := v + 1) HSet.out
      have z8 := C8.out.size
      clear hw8 HR7 HB7 HG7 hce hfe HD7 n2 m2 m2d m3 HDy H3y H4y HXy HE HBE m2e
      have s1 : w8.cell? ⟨D, 1, none⟩ = some (.int .i64 r.serial) := HD8.out.cell (j := 1) rfl
      have s3 : w8.cell? ⟨D, 3, none⟩ = some (.slice A2 r.l.length c2) := HD8.out.cell (j := 3) rfl
      have hF0 : (0 : Int) ≤ (F : Nat) := by omega
      have hFN : (F : Int) < r.lasts.length := by have := HIl.out; omega
      have s1a : ((w8.alloc (Obj.cells #[.int .i64 0, .int .i64 0, .int .i64 0, .bool false, .int .i64 0, .int .i64 0] 34)).drew).cell? ⟨D, 1, none⟩ = some (.int .i64 r.serial) := (HD8.out.alloc _).drew.cell (j := 1) rfl
      have c8a : ((w8.alloc (Obj.cells #[.int .i64 0, .int .i64 0, .int .i64 0, .bool false, .int .i64 0, .int .i64 0] 34)).drew).cell? ⟨g, F, none⟩ = some (.int .i64 (v + 1)) := (own_cell (Kd.R_drew (Kd.R_alloc HR8.out _)) (i := F) (v := v + 1) HSet.out).1
      have eF : (F : Int).toNat = F := by omega
      go_region
      refine gwE (fun w9 hw9 => ?_)
      have C9 : Hid (Chg (fun k => k = D) wy w9) := Lib.hid (by rw [← hw9]; exact (C8.out.alloc _).drew)
      have HD9 : Hid (Blk w9 D #[.int .i64 r.cap, .int .i64 r.serial, .slice (some ⟨g, 0, none⟩) r.lasts.length c7, .slice A2 r.l.length c2] 49) := Lib.hid (by rw [← hw9]; exact (HD8.out.alloc _).drew)
      have HX9 : Hid (Blk w9 w.heap.size #[.int .i64 0, .int .i64 0, .int .i64 0, .bool false, .int .i64 0, .int .i64 0] 34) := Lib.hid (by rw [← hw9]; exact (HX8.out.alloc _).drew)
      have HY9 : Hid (Blk w9 w8.heap.size #[.int .i64 (F : Nat), .int .i64 (v + 1), .int .i64 x, .bool true, .int .i64 key, .int .i64 r.serial] 34) := Lib.hid (by rw [← hw9]; exact (Blk.new _ _ _).drew)
      have HR9 : Hid (Kd.R (Kd.int .i64) 3 w9 wy.heap.size (fun k => wy.heap.size ≤ k) (.slice (some ⟨g, 0, none⟩) r.lasts.length c7) (r.lasts.set F (v + 1))) := Lib.hid (by rw [← hw9]; exact Kd.R_drew (Kd.R_alloc HR8.out _))
      have H49 : Hid (LRow w9 S A2 r.l) := Lib.hid (by rw [← hw9]; exact Kd.F_drew (Kd.F_alloc H48.out _))
      clear hw9 C8 HD8 HX8 HR8 H48 hce8 hfe8 s1 s3 s1a c8a hF0 hFN eF
      have s1 : w9.cell? ⟨D, 1, none⟩ = some (.int .i64 r.serial) := HD9.out.cell (j := 1) rfl
      have n1 := HD9.out.free 1
      go_wp2_with fail
      refine gwP (fun w10 hw10 => ?_)
      have z9 := C9.out.size
      have C10 : Hid (Chg (fun k => k = D) wy w10) := Lib.hid (by rw [← hw10]; exact Chg.set (S := fun k => k = D) (p := ⟨D, 1, none⟩) C9.out (fun _ => rfl) _)
      have HD10 : Hid (Blk w10 D #[.int .i64 r.cap, .int .i64 (r.serial + 1), .slice (some ⟨g, 0, none⟩) r.lasts.length c7, .slice A2 r.l.length c2] 49) := Lib.hid (by rw [← hw10]; exact HD9.out.set 1 _)
      have HX10 : Hid (Blk w10 w.heap.size #[.int .i64 0, .int .i64 0, .int .i64 0, .bool false, .int .i64 0, .int .i64 0] 34) := Lib.hid (by rw [← hw10]; exact HX9.out.far (by show w.heap.size ≠ D; omega) _)
      have HY10 : Hid (Blk w10 w8.heap.size #[.int .i64 (F : Nat), .int .i64 (v + 1), .int .i64 x, .bool true, .int .i64 key, .int .i64 r.serial] 34) := Lib.hid (by rw [← hw10]; exact HY9.out.far (by show w8.heap.size ≠ D; omega) _)
      have HR10 : Hid (Kd.R (Kd.int .i64) 3 w10 wy.heap.size (fun k => wy.heap.size ≤ k) (.slice (some ⟨g, 0, none⟩) r.lasts.length c7) (r.lasts.set F (v + 1))) := Lib.hid (by rw [← hw10]; exact Kd.R_far HR9.out (p := ⟨D, 1, none⟩) (fun k hk => by show k ≠ D; have : wy.heap.size ≤ k := hk; omega) _)
      have H410 : Hid (LRow w10 S A2 r.l) := Lib.hid (by rw [← hw10]; exact Kd.F_far H49.out (p := ⟨D, 1, none⟩) (fun k hk => (H5.out k hk).1) _)
      have z10 := C10.out.size
      clear hw10 C9 HD9 HX9 HY9 HR9 H49 s1 n1
      have s3 : w10.cell? ⟨D, 3, none⟩ = some (.slice A2 r.l.length c2) := HD10.out.cell (j := 3) rfl
      have y0 := HY10.out.cell (j := 0) rfl
      have y1 := HY10.out.cell (j := 1) rfl
      have y2 := HY10.out.cell (j := 2) rfl
      have y3 := HY10.out.cell (j := 3) rfl
      have y4 := HY10.out.cell (j := 4) rfl
      have y5 := HY10.out.cell (j := 5) rfl
      have CA : Hid (Calls Try.prog 50 #[.slice A2 r.l.length c2, aggL ⟨⟨(F : Nat), v + 1⟩, ⟨x, true, key, r.serial⟩⟩] w10.drew fun e w' => ∃ A' c', e = .returned (.slice A' (addL r.l ⟨⟨(F : Nat), v + 1⟩, ⟨x, true, key, r.serial⟩⟩).length c') ∧ (addL r.l ⟨⟨(F : Nat), v + 1⟩, ⟨x, true, key, r.serial⟩⟩).length ≤ c' ∧
          LRow w' (fun k => w10.heap.size ≤ k ∧ k < w'.heap.size) A' (addL r.l ⟨⟨(F : Nat), v + 1⟩, ⟨x, true, key, r.serial⟩⟩) ∧ Below w10.heap.size w10 w') := Lib.hid ((refAdd_ (Kd.F_now (Kd.F_drew H410.out)) H2.out HL.out ⟨⟨(F : Nat), v + 1⟩, ⟨x, true, key, r.serial⟩⟩).mono (fun e w' ⟨A', c', a, b, c, d⟩ => ⟨A', c', a, b, c, (Below.refl _ _).drew.trans d⟩))
      go_region_with (go_at_call 50; refine CA.out.mono ?_; rintro e w6 ⟨A6, c6, rfl, hc6, hrow6, hb6⟩; have HC6 := Lib.hid hc6; have HRow6 := Lib.hid hrow6; have HB6 := Lib.hid hb6; have HD6 := Lib.hid (HD10.out.below hb6); have s3 : w6.cell? ⟨D, 3, none⟩ = some (.slice A2 r.l.length c2) := HD6.out.cell (j := 3) rfl; have n3 := HD6.out.free 3; clear hc6 hrow6 hb6)
      all_goals
        refine gwE (fun wz hwz => ?_)
        have z6 := HB6.out.size
        have C6 : Chg (fun k => k = D) wy w6 := C10.out.trans (Chg.of_below (S := fun _ => False) HB6.out) (fun _ _ h => h.elim)
        have CZ : Hid (Chg (fun k => k = D) wy wz) := Lib.hid (by rw [← hwz]; exact Chg.set (S := fun k => k = D) (p := ⟨D, 3, none⟩) C6 (fun _ => rfl) _)
        have HXz : Hid (Blk wz w.heap.size #[.int .i64 0, .int .i64 0, .int .i64 0, .bool false, .int .i64 0, .int .i64 0] 34) := Lib.hid (by rw [← hwz]; exact (HX10.out.below HB6.out).far (by show w.heap.size ≠ D; omega) _)
        have HYz : Hid (Blk wz w8.heap.size #[.int .i64 (F : Nat), .int .i64 (v + 1), .int .i64 x, .bool true, .int .i64 key, .int .i64 r.serial] 34) := Lib.hid (by rw [← hwz]; exact (HY10.out.below HB6.out).far (by show w8.heap.size ≠ D; omega) _)
        have HRz : Hid (RefAt wz (fun k => wy.heap.size ≤ k ∧ k < w6.heap.size) D ⟨r.cap, r.serial + 1, r.lasts.set F (v + 1), addL r.l ⟨⟨(F : Nat), v + 1⟩, ⟨x, true, key, r.serial⟩⟩⟩) := Lib.hid (by
          have hI := Kd.F_mono (Kd.R_F (Kd.R_bound (Kd.R_below HR10.out HB6.out))) (ok' := fun k => wy.heap.size ≤ k ∧ k < w6.heap.size) (fun k hk => ⟨hk.2.1, hk.2.2.1⟩)
          have hlen : (r.lasts.set F (v + 1)).length = r.lasts.length := by simp
          have hc := (Kd.R_reads' HR10.out).2.1
          rw [← hwz]
          have hne : ∀ k, wy.heap.size ≤ k ∧ k < w6.heap.size → k ≠ D := fun k hk => by have := hk.1; omega
          refine ⟨some ⟨g, 0, none⟩, c7, A6, c6, ?_, by rw [hlen]; exact hc, HC6.out, ?_, Kd.F_far (p := ⟨D, 3, none⟩) (Kd.F_mono HRow6.out (fun k hk => ⟨by have := hk.1; omega, hk.2⟩)) (fun k hk => hne k hk) _, fun k hk => ⟨hne k hk, by simpa [World.setCell] using hk.2⟩⟩
          · show Blk _ D #[.int .i64 r.cap, .int .i64 (r.serial + 1), .slice (some ⟨g, 0, none⟩) (r.lasts.set F (v + 1)).length c7, .slice A6 (addL r.l ⟨⟨(F : Nat), v + 1⟩, ⟨x, true, key, r.serial⟩⟩).length c6] 49
            rw [hlen]
            exact HD6.out.set 3 _
          · show Kd.F (Kd.int .i64) _ _ (some ⟨g, 0, none⟩) (r.lasts.set F (v + 1)).length (r.lasts.set F (v + 1))
            rw [hlen]
            exact Kd.F_far (p := ⟨D, 3, none⟩) hI (fun k hk => hne k hk) _)
        clear hwz CA HB6 HRow6 HC6 HD6 HR10 H410 HX10 HY10 HD10 C10 C6 s3 n3 y0 y1 y2 y3 y4 y5
        have y0 := HYz.out.cell (j := 0) rfl
        have y1 := HYz.out.cell (j := 1) rfl
        have y2 := HYz.out.cell (j := 2) rfl
        have y3 := HYz.out.cell (j := 3) rfl
        have y4 := HYz.out.cell (j := 4) rfl
        have y5 := HYz.out.cell (j := 5) rfl
        have x0 := HXz.out.cell (j := 0) rfl
        have x1 := HXz.out.cell (j := 1) rfl
        have x2 := HXz.out.cell (j := 2) rfl
        have x3 := HXz.out.cell (j := 3) rfl
        have x4 := HXz.out.cell (j := 4) rfl
        have x5 := HXz.out.cell (j := 5) rfl
        have f0 := HXz.out.free 0
        have f1 := HXz.out.free 1
        have f2 := HXz.out.free 2
        have f3 := HXz.out.free 3
        have f4 := HXz.out.free 4
        have f5 := HXz.out.free 5
        go_wp2_with fail
        refine bodyPost_ret (results_ct rfl _ _ w.heap.size 34 _ (0, 0) _ rfl ((((((HXz.out.set 0 (.int .i64 (F : Nat))).set 1 (.int .i64 (v + 1))).set 2 (.int .i64 x)).set 3 (.bool true)).set 4 (.int .i64 key)).set 5 (.int .i64 r.serial)) Try.underlying34 rfl (by kernel_rfl)) rfl ?_
        have hD1 : ¬ D = w.heap.size := by omega
        refine ⟨rfl, ⟨_, HRz.out.keep (Z := fun k => k = w.heap.size) (chg6 (S := fun k => k = w.heap.size) (b := w.heap.size) (Chg.refl _ _) (fun _ => rfl) _ _ _ _ _ _) hD1 (fun k hk => by have := hk.1; omega), fun k hk => Or.inr (by have := hk.1; omega)⟩,
          chg6 (b := w.heap.size) ((Chg.of_below (S := fun k => k = D) HBy.out).trans CZ.out (fun _ _ h => h)) (fun h => absurd h (Nat.lt_irrefl _)) _ _ _ _ _ _⟩
    · have hmlt : m < r.lasts.length := by omega
      obtain ⟨u, hu⟩ : ∃ u, r.lasts[m]? = some u := ⟨_, List.getElem?_eq_getElem hmlt⟩
      obtain ⟨ad1, rfl, u0⟩ := irow_at (Kd.F_now H3q.out) hu
      have hbusy := HF.out m u (by omega) hu
      have tm : decide ((m : Int) < (r.lasts.length : Int)) = true := decide_eq_true (by omega)
      have tn : decide (r.lasts.length ≤ m) = false := decide_eq_false (by omega)
      have hi0 : (0 : Int) ≤ m := by omega
      have hiN : (m : Int) < r.lasts.length := by omega
      have ei : (m : Int).toNat = m := by omega
      have hM1 : m < 1000000 := by have := HL2.out; omega
      clear hu
      cases hsl : slotB r m with
      | true =>
        go_wp2_with fail
        refine (refSlot_ (Kd.F_now H4q.out) H2.out HL.out (m : Int)).mono ?_
        rintro e w' ⟨rfl, q2, rfl⟩
        rw [show r.l.any (fun y => y.r.i == (m : Int)) = true from hsl]
        go_wp2_with fail
        go_roundw
        case rel => exact ⟨m + 1, q + q2, by omega, by go_num, by rw [HW.out, World.drewN_drewN]⟩
        case measure => simp [intOf]; omega
      | false =>
        have hu2 : 4294967295 ≤ u := by
          rcases hbusy with h | h
          · rw [hsl] at h; cases h
          · exact h
        have t4 : decide ((4294967295 : Int) ≤ u) = true := decide_eq_true hu2
        go_wp2_with fail
        refine (refSlot_ (Kd.F_now H4q.out) H2.out HL.out (m : Int)).mono ?_
        rintro e w' ⟨rfl, q2, rfl⟩
        rw [show r.l.any (fun y => y.r.i == (m : Int)) = false from hsl]
        have HDz : Hid (Blk (wr.drewN q2) D (rCells r (some ad1) c1 A2 c2) 49) := Lib.hid (HDq.out.drewN q2)
        have m2z : (wr.drewN q2).cell? ⟨D, 2, none⟩ = some (.slice (some ad1) r.lasts.length c1) := HDz.out.cell (j := 2) rfl
        have u0z : (wr.drewN q2).cell? (ad1.add m) = some (.int .i64 u) := u0
        go_wp2_with fail
        go_roundw
        case rel => exact ⟨m + 1, q + q2, by omega, by go_num, by rw [HW.out, World.drewN_drewN]⟩
        case measure => simp [intOf]; omega

set_option maxRecDepth 100000 in
set_option maxHeartbeats 8000000 in
theorem rissue_old_f {w : World} {S : Nat → Prop} {D : Nat} {r : RTab} (h : RefAt w S D r) (hl : r.l.length ≤ 1000000) (hl2 : r.lasts.length ≤ 1000000) {x key : Int} (hM : rmay r x = 0) (hser : r.serial < 9223372036854775807) (hser0 : 0 ≤ r.serial) {F : Nat} (hF : ∀ j v, j < F → r.lasts[j]? = some v → slotB r j = true ∨ 4294967295 ≤ v) {v : Int} (hN : r.lasts[F]? = some v) (hs : slotB r F = false) (hv : v < 4294967295) (hv0 : 0 ≤ v) :
    Calls Try.prog 38 #[.pointer (some ⟨D, 0, none⟩), .int .i64 x, .bool false, .int .i64 key] w fun e w' => e = .returned (.tuple #[aggL ⟨⟨(F : Nat), v + 1⟩, ⟨x, false, 0, r.serial⟩⟩, .int .i64 0]) ∧ (∃ S', RefAt w' S' D ⟨r.cap, r.serial + 1, r.lasts.set F (v + 1), addL r.l ⟨⟨(F : Nat), v + 1⟩, ⟨x, false, 0, r.serial⟩⟩⟩ ∧ ∀ k, S' k → Wide S w k) ∧ Chg (fun k => k = D) w w' := by
  have hR := h
  have hFle : F ≤ r.lasts.length := by have := (List.getElem?_eq_some_iff.1 hN).1; omega
  obtain ⟨A1, c1, A2, c2, hb, h1, h2, h3, h4, h5⟩ := h
  have HR := Lib.hid hR
  have HD := Lib.hid hb
  have H1 := Lib.hid h1
  have H3 := Lib.hid h3
  have H4 := Lib.hid h4
  have H5 := Lib.hid h5
  have H2 := Lib.hid h2
  have HL := Lib.hid hl
  have HL2 := Lib.hid hl2
  have HLt := Lib.hid hb.lt
  have HM := Lib.hid hM
  have HF := Lib.hid hF
  have hsum : wrap64 (r.serial + 1) = r.serial + 1 := by unfold wrap64; omega
  have hs1 : r.serial + 1 ≤ 9223372036854775807 := by omega
  have hs2 : -9223372036854775808 ≤ r.serial + 1 := by omega
  clear hser hser0
  have hu34 := Try.underlying34
  have hu32 := Try.underlying32
  have hu30 := Try.underlying30
  have hu28 := Try.underlying28
  clear hb h1 h2 h3 h4 h5 hl hM hR hF hl2
  go_enter Try.func38, Try.ntmps38
  go_wp2_with fail
  refine gw (fun wa hwa => ?_)
  have HBa : Hid (Below w.heap.size w wa) := Lib.hid (by rw [← hwa]; exact (Below.refl _ _).alloc (Nat.le_refl _) _)
  have HX : Hid (Blk wa w.heap.size #[.int .i64 0, .int .i64 0, .int .i64 0, .bool false, .int .i64 0, .int .i64 0] 34) := Lib.hid (by rw [← hwa]; exact Blk.new _ _ _)
  clear hwa
  refine (rmayAt (HR.out.below HBa.out) HL.out x).mono ?_
  rintro e wb ⟨rfl, hb⟩
  rw [HM.out]
  have HBw : Hid (Below w.heap.size w wb) := Lib.hid (btrans HBa.out hb)
  have HXb := Lib.hid (HX.out.below hb)
  have HDb := Lib.hid (HD.out.below HBw.out)
  have H3b := Lib.hid (Kd.F_below H3.out HBw.out)
  have H4b := Lib.hid (Kd.F_below H4.out HBw.out)
  clear HBa HX hb HR HM
  go_wp2_with fail
  go_loopw [11] (fun i w' => ∃ m q : Nat, m ≤ F ∧ i = .int .i64 m ∧ w' = wb.drewN q) (fun i _ => F - (intOf i).toNat)
  case atStart => exact ⟨0, 0, Nat.zero_le _, rfl, rfl⟩
  case round =>
    obtain ⟨m, q, hm, rfl, hw⟩ := hrel
    have HDq : Hid (Blk wr D (rCells r A1 c1 A2 c2) 49) := Lib.hid (by rw [hw]; exact HDb.out.drewN q)
    have H3q : Hid (IRow wr S A1 r.lasts) := Lib.hid (by rw [hw]; exact Kd.F_drewN H3b.out q)
    have H4q : Hid (LRow wr S A2 r.l) := Lib.hid (by rw [hw]; exact Kd.F_drewN H4b.out q)
    have HXq : Hid (Blk wr w.heap.size #[.int .i64 0, .int .i64 0, .int .i64 0, .bool false, .int .i64 0, .int .i64 0] 34) := Lib.hid (by rw [hw]; exact HXb.out.drewN q)
    have HBq : Hid (Below w.heap.size w wr) := Lib.hid (by rw [hw]; exact bdn HBw.out q)
    have HW := Lib.hid hw
    clear hw
    have m2 : wr.cell? ⟨D, 2, none⟩ = some (.slice A1 r.lasts.length c1) := HDq.out.cell (j := 2) rfl
    have m3 : wr.cell? ⟨D, 3, none⟩ = some (.slice A2 r.l.length c2) := HDq.out.cell (j := 3) rfl
    by_cases hmF : m = F
    · have hmF' : F = m := hmF.symm
      subst hmF'
      clear hmF
      have hmlt : F < r.lasts.length := (List.getElem?_eq_some_iff.1 hN).1
      obtain ⟨ad1, rfl, u0⟩ := irow_at (Kd.F_now H3q.out) hN
      have tm : decide ((F : Int) < (r.lasts.length : Int)) = true := decide_eq_true (by omega)
      have tn : decide (r.lasts.length ≤ F) = false := decide_eq_false (by omega)
      have tz : ((F : Int) == (r.lasts.length : Int)) = false := beq_eq_false_iff_ne.2 (by omega)
      have t4 : decide ((4294967295 : Int) ≤ v) = false := decide_eq_false (by omega)
      have hi0 : (0 : Int) ≤ F := by omega
      have hiN : (F : Int) < r.lasts.length := by omega
      have ei : (F : Int).toNat = F := by omega
      have hM1 : F < 1000000 := by have := HL2.out; omega
      have hv1 : wrap64 (v + 1) = v + 1 := by unfold wrap64; omega
      have hv2 : v + 1 ≤ 4294967295 := by omega
      have HNv := Lib.hid hN
      have HIl := Lib.hid hmlt
      have HSet : Hid ((r.lasts.set F (v + 1))[F]? = some (v + 1)) := Lib.hid (by simp [hmlt])
      clear hN hFle hm hv hmlt
      go_wp2_with fail
      refine (refSlot_ (Kd.F_now H4q.out) H2.out HL.out (F : Int)).mono ?_
      rintro e w' ⟨rfl, q2, rfl⟩
      rw [show r.l.any (fun y => y.r.i == (F : Int)) = false from hs]
      have HDy : Hid (Blk (wr.drewN q2) D (rCells r (some ad1) c1 A2 c2) 49) := Lib.hid (HDq.out.drewN q2)
      have H3y := Lib.hid (Kd.F_drewN H3q.out q2)
      have H4y := Lib.hid (Kd.F_drewN H4q.out q2)
      have HXy : Hid (Blk (wr.drewN q2) w.heap.size _ 34) := Lib.hid (HXq.out.drewN q2)
      have HBy : Hid (Below w.heap.size w (wr.drewN q2)) := Lib.hid (bdn HBq.out q2)
      have u0y : (wr.drewN q2).cell? (ad1.add F) = some (.int .i64 v) := u0
      clear HDq H3q H4q HXq HBq m2 m3 u0 HW
      generalize wr.drewN q2 = wy at *
      have m2 : wy.cell? ⟨D, 2, none⟩ = some (.slice (some ad1) r.lasts.length c1) := HDy.out.cell (j := 2) rfl
      have m3 : wy.cell? ⟨D, 3, none⟩ = some (.slice A2 r.l.length c2) := HDy.out.cell (j := 3) rfl
      go_wp2_with (first
        | (refine gate_dst (N := 48) rfl ?_; refine Kd.R_lit (Kd.int .i64) (w0 := wy) wy.heap.size 3 ?_ (N := 48) ?_ (xs := ([] : List Int)) (inner := []) (ok := fun k => wy.heap.size ≤ k) (okp := fun _ => False) ?_ ?_ (fun _ hk => hk.elim) (Nat.le_refl _) (Below.refl _ _) (Nat.le_refl _) (by simp) ?_; rfl; rfl; (next => first | (go_simp; done) | (go_simp; rfl)); exact Reps.none _ _; intro ve we hE hbE _ _; have HE := Lib.hid hE; have HBE := Lib.hid hbE; have m2e : we.cell? ⟨D, 2, none⟩ = some (.slice (some ad1) r.lasts.length c1) := (HDy.out.below hbE).cell (j := 2) rfl; clear hE hbE)
        | ((with_reducible refine gate_builtin (b := .append) (xs := #[.tmp 48, .tmp 52]) rfl ?_); at_builtin; refine Kd.R_append_rows (Kd.int .i64) (w0 := wy) wy.heap.size rfl (.tmp 48) (.tmp 52) 47 3 (.int .i64 0) 8 rfl Try.underlying47 info3 rfl (by decide) (by decide) ve ([] : List Int) r.lasts _ _ _ (fun k => wy.heap.size ≤ k) (fun _ => False) rfl rfl ?aO ?aR (fun _ _ h => h) (fun _ h => h.elim) ?aF ?aB ?aS ?aL ?_; (case aO => exact HE.out); (case aR => exact Kd.F_now (Kd.F_below H3y.out HBE.out)); (case aF => exact (fun k hk => Nat.le_trans HBE.out.size hk)); (case aB => exact HBE.out); (case aS => exact HBE.out.size); (case aL => have := HL2.out; simp; omega); intro v5 w7 hR5 hB5 _ _; rw [List.nil_append] at hR5; have hR7 := hR5; have hB7 := hB5; obtain ⟨g, c7, rfl, hg7, hgl7, _⟩ := Kd.R_form hR7 (by have := HIl.out; omega); have HR7 := Lib.hid hR7; have HB7 := Lib.hid hB7; have HG7 := Lib.hid (And.intro hg7 hgl7); obtain ⟨hce, hfe⟩ := own_cell hR7 (i := F) (v := v) HNv.out; have HD7 := Lib.hid (HDy.out.below hB7); have n2 := HD7.out.free 2; have m2d : w7.cell? ⟨D, 2, none⟩ = some (.slice (some ad1) r.lasts.length c1) := HD7.out.cell (j := 2) rfl; have qg : D ≠ g := (by have := HDy.out.lt; omega); have qg2 : g ≠ D := fun e => qg e.symm; clear hR5 hB5 hR7 hB7 hg7 hgl7))
      refine gwP (fun w8 hw8 => ?_)
      have zr : w.heap.size ≤ wy.heap.size := HBy.out.size
      have zD := HLt.out
      have hgr := HG7.out.1
      have zq : w.heap.size < wy.heap.size := HXy.out.lt
      have C8 : Hid (Chg (fun k => k = D) wy w8) := Lib.hid (by
        rw [← hw8]
        exact Chg.set (S := fun k => k = D) (p := ⟨D, 2, none⟩) (Chg.set (S := fun k => k = D) (p := ⟨g, F, none⟩) (Chg.of_below HB7.out) (fun h => absurd h (by show ¬ g < wy.heap.size; omega)) _) (fun _ => rfl) _)
      have HR8 : Hid (Kd.R (Kd.int .i64) 3 w8 wy.heap.size (fun k => wy.heap.size ≤ k) (.slice (some ⟨g, 0, none⟩) r.lasts.length c7) (r.lasts.set F (v + 1))) := Lib.hid (by
        have h1 := own_put HR7.out F (v + 1)
        rw [← hw8]
        exact Kd.R_far h1 (p := ⟨D, 2, none⟩) (fun k hk => by show k ≠ D; have : wy.heap.size ≤ k := hk; have := HDy.out.lt; omega) _)
      have HD8 : Hid (Blk w8 D #[.int .i64 r.cap, .int .i64 r.serial, .slice (some ⟨g, 0, none⟩) r.lasts.length c7, .slice A2 r.l.length c2] 49) := Lib.hid (by
        rw [← hw8]
        exact (HD7.out.far qg _).set 2 _)
      have HX8 := Lib.hid (HXy.out.keep C8.out (by omega))
      have H48 : Hid (LRow w8 S A2 r.l) := Lib.hid (Kd.F_step H4y.out (fun k hk hl => C8.out.block k hl (H5.out k hk).1))
      obtain ⟨hce8, hfe8⟩ := own_cell HR8.out (i := F) (v := v + 1) HSet.out
      have z8 := C8.out.size
      clear hw8 HR7 HB7 HG7 hce hfe HD7 n2 m2 m2d m3 HDy H3y H4y HXy HE HBE m2e
      have s1 : w8.cell? ⟨D, 1, none⟩ = some (.int .i64 r.serial) := HD8.out.cell (j := 1) rfl
      have s3 : w8.cell? ⟨D, 3, none⟩ = some (.slice A2 r.l.length c2) := HD8.out.cell (j := 3) rfl
      have hF0 : (0 : Int) ≤ (F : Nat) := by omega
      have hFN : (F : Int) < r.lasts.length := by have := HIl.out; omega
      have s1a : ((w8.alloc (Obj.cells #[.int .i64 0, .int .i64 0, .int .i64 0, .bool false, .int .i64 0, .int .i64 0] 34)).drew).cell? ⟨D, 1, none⟩ = some (.int .i64 r.serial) := (HD8.out.alloc _).drew.cell (j := 1) rfl
      have c8a : ((w8.alloc (Obj.cells #[.int .i64 0, .int .i64 0, .int .i64 0, .bool false, .int .i64 0, .int .i64 0] 34)).drew).cell? ⟨g, F, none⟩ = some (.int .i64 (v + 1)) := (own_cell (Kd.R_drew (Kd.R_alloc HR8.out _)) (i := F) (v := v + 1) HSet.out).1
      have eF : (F : Int).toNat = F := by omega
      go_region
      refine gwE (fun w9 hw9 => ?_)
      have C9 : Hid (Chg (fun k => k = D) wy w9) := Lib.hid (by rw [← hw9]; exact (C8.out.alloc _).drew)
      have HD9 : Hid (Blk w9 D #[.int .i64 r.cap, .int .i64 r.serial, .slice (some ⟨g, 0, none⟩) r.lasts.length c7, .slice A2 r.l.length c2] 49) := Lib.hid (by rw [← hw9]; exact (HD8.out.alloc _).drew)
      have HX9 : Hid (Blk w9 w.heap.size #[.int .i64 0, .int .i64 0, .int .i64 0, .bool false, .int .i64 0, .int .i64 0] 34) := Lib.hid (by rw [← hw9]; exact (HX8.out.alloc _).drew)
      have HY9 : Hid (Blk w9 w8.heap.size #[.int .i64 (F : Nat), .int .i64 (v + 1), .int .i64 x, .bool false, .int .i64 0, .int .i64 r.serial] 34) := Lib.hid (by rw [← hw9]; exact (Blk.new _ _ _).drew)
      have HR9 : Hid (Kd.R (Kd.int .i64) 3 w9 wy.heap.size (fun k => wy.heap.size ≤ k) (.slice (some ⟨g, 0, none⟩) r.lasts.length c7) (r.lasts.set F (v + 1))) := Lib.hid (by rw [← hw9]; exact Kd.R_drew (Kd.R_alloc HR8.out _))
      have H49 : Hid (LRow w9 S A2 r.l) := Lib.hid (by rw [← hw9]; exact Kd.F_drew (Kd.F_alloc H48.out _))
      clear hw9 C8 HD8 HX8 HR8 H48 hce8 hfe8 s1 s3 s1a c8a hF0 hFN eF
      have s1 : w9.cell? ⟨D, 1, none⟩ = some (.int .i64 r.serial) := HD9.out.cell (j := 1) rfl
      have n1 := HD9.out.free 1
      go_wp2_with fail
      refine gwP (fun w10 hw10 => ?_)
      have z9 := C9.out.size
      have C10 : Hid (Chg (fun k => k = D) wy w10) := Lib.hid (by rw [← hw10]; exact Chg.set (S := fun k => k = D) (p := ⟨D, 1, none⟩) C9.out (fun _ => rfl) _)
      have HD10 : Hid (Blk w10 D #[.int .i64 r.cap, .int .i64 (r.serial + 1), .slice (some ⟨g, 0, none⟩) r.lasts.length c7, .slice A2 r.l.length c2] 49) := Lib.hid (by rw [← hw10]; exact HD9.out.set 1 _)
      have HX10 : Hid (Blk w10 w.heap.size #[.int .i64 0, .int .i64 0, .int .i64 0, .bool false, .int .i64 0, .int .i64 0] 34) := Lib.hid (by rw [← hw10]; exact HX9.out.far (by show w.heap.size ≠ D; omega) _)
      have HY10 : Hid (Blk w10 w8.heap.size #[.int .i64 (F : Nat), .int .i64 (v + 1), .int .i64 x, .bool false, .int .i64 0, .int .i64 r.serial] 34) := Lib.hid (by rw [← hw10]; exact HY9.out.far (by show w8.heap.size ≠ D; omega) _)
      have HR10 : Hid (Kd.R (Kd.int .i64) 3 w10 wy.heap.size (fun k => wy.heap.size ≤ k) (.slice (some ⟨g, 0, none⟩) r.lasts.length c7) (r.lasts.set F (v + 1))) := Lib.hid (by rw [← hw10]; exact Kd.R_far HR9.out (p := ⟨D, 1, none⟩) (fun k hk => by show k ≠ D; have : wy.heap.size ≤ k := hk; omega) _)
      have H410 : Hid (LRow w10 S A2 r.l) := Lib.hid (by rw [← hw10]; exact Kd.F_far H49.out (p := ⟨D, 1, none⟩) (fun k hk => (H5.out k hk).1) _)
      have z10 := C10.out.size
      clear hw10 C9 HD9 HX9 HY9 HR9 H49 s1 n1
      have s3 : w10.cell? ⟨D, 3, none⟩ = some (.slice A2 r.l.length c2) := HD10.out.cell (j := 3) rfl
      have y0 := HY10.out.cell (j := 0) rfl
      have y1 := HY10.out.cell (j := 1) rfl
      have y2 := HY10.out.cell (j := 2) rfl
      have y3 := HY10.out.cell (j := 3) rfl
      have y4 := HY10.out.cell (j := 4) rfl
      have y5 := HY10.out.cell (j := 5) rfl
      have CA : Hid (Calls Try.prog 50 #[.slice A2 r.l.length c2, aggL ⟨⟨(F : Nat), v + 1⟩, ⟨x, false, 0, r.serial⟩⟩] w10.drew fun e w' => ∃ A' c', e = .returned (.slice A' (addL r.l ⟨⟨(F : Nat), v + 1⟩, ⟨x, false, 0, r.serial⟩⟩).length c') ∧ (addL r.l ⟨⟨(F : Nat), v + 1⟩, ⟨x, false, 0, r.serial⟩⟩).length ≤ c' ∧
          LRow w' (fun k => w10.heap.size ≤ k ∧ k < w'.heap.size) A' (addL r.l ⟨⟨(F : Nat), v + 1⟩, ⟨x, false, 0, r.serial⟩⟩) ∧ Below w10.heap.size w10 w') := Lib.hid ((refAdd_ (Kd.F_now (Kd.F_drew H410.out)) H2.out HL.out ⟨⟨(F : Nat), v + 1⟩, ⟨x, false, 0, r.serial⟩⟩).mono (fun e w' ⟨A', c', a, b, c, d⟩ => ⟨A', c', a, b, c, (Below.refl _ _).drew.trans d⟩))
      go_region_with (go_at_call 50; refine CA.out.mono ?_; rintro e w6 ⟨A6, c6, rfl, hc6, hrow6, hb6⟩; have HC6 := Lib.hid hc6; have HRow6 := Lib.hid hrow6; have HB6 := Lib.hid hb6; have HD6 := Lib.hid (HD10.out.below hb6); have s3 : w6.cell? ⟨D, 3, none⟩ = some (.slice A2 r.l.length c2) := HD6.out.cell (j := 3) rfl; have n3 := HD6.out.free 3; clear hc6 hrow6 hb6)
      all_goals
        refine gwE (fun wz hwz => ?_)
        have z6 := HB6.out.size
        have C6 : Chg (fun k => k = D) wy w6 := C10.out.trans (Chg.of_below (S := fun _ => False) HB6.out) (fun _ _ h => h.elim)
        have CZ : Hid (Chg (fun k => k = D) wy wz) := Lib.hid (by rw [← hwz]; exact Chg.set (S := fun k => k = D) (p := ⟨D, 3, none⟩) C6 (fun _ => rfl) _)
        have HXz : Hid (Blk wz w.heap.size #[.int .i64 0, .int .i64 0, .int .i64 0, .bool false, .int .i64 0, .int .i64 0] 34) := Lib.hid (by rw [← hwz]; exact (HX10.out.below HB6.out).far (by show w.heap.size ≠ D; omega) _)
        have HYz : Hid (Blk wz w8.heap.size #[.int .i64 (F : Nat), .int .i64 (v + 1), .int .i64 x, .bool false, .int .i64 0, .int .i64 r.serial] 34) := Lib.hid (by rw [← hwz]; exact (HY10.out.below HB6.out).far (by show w8.heap.size ≠ D; omega) _)
        have HRz : Hid (RefAt wz (fun k => wy.heap.size ≤ k ∧ k < w6.heap.size) D ⟨r.cap, r.serial + 1, r.lasts.set F (v + 1), addL r.l ⟨⟨(F : Nat), v + 1⟩, ⟨x, false, 0, r.serial⟩⟩⟩) := Lib.hid (by
          have hI := Kd.F_mono (Kd.R_F (Kd.R_bound (Kd.R_below HR10.out HB6.out))) (ok' := fun k => wy.heap.size ≤ k ∧ k < w6.heap.size) (fun k hk => ⟨hk.2.1, hk.2.2.1⟩)
          have hlen : (r.lasts.set F (v + 1)).length = r.lasts.length := by simp
          have hc := (Kd.R_reads' HR10.out).2.1
          rw [← hwz]
          have hne : ∀ k, wy.heap.size ≤ k ∧ k < w6.heap.size → k ≠ D := fun k hk => by have := hk.1; omega
          refine ⟨some ⟨g, 0, none⟩, c7, A6, c6, ?_, by rw [hlen]; exact hc, HC6.out, ?_, Kd.F_far (p := ⟨D, 3, none⟩) (Kd.F_mono HRow6.out (fun k hk => ⟨by have := hk.1; omega, hk.2⟩)) (fun k hk => hne k hk) _, fun k hk => ⟨hne k hk, by simpa [World.setCell] using hk.2⟩⟩
          · show Blk _ D #[.int .i64 r.cap, .int .i64 (r.serial + 1), .slice (some ⟨g, 0, none⟩) (r.lasts.set F (v + 1)).length c7, .slice A6 (addL r.l ⟨⟨(F : Nat), v + 1⟩, ⟨x, false, 0, r.serial⟩⟩).length c6] 49
            rw [hlen]
            exact HD6.out.set 3 _
          · show Kd.F (Kd.int .i64) _ _ (some ⟨g, 0, none⟩) (r.lasts.set F (v + 1)).length (r.lasts.set F (v + 1))
            rw [hlen]
            exact Kd.F_far (p := ⟨D, 3, none⟩) hI (fun k hk => hne k hk) _)
        clear hwz CA HB6 HRow6 HC6 HD6 HR10 H410 HX10 HY10 HD10 C10 C6 s3 n3 y0 y1 y2 y3 y4 y5
        have y0 := HYz.out.cell (j := 0) rfl
        have y1 := HYz.out.cell (j := 1) rfl
        have y2 := HYz.out.cell (j := 2) rfl
        have y3 := HYz.out.cell (j := 3) rfl
        have y4 := HYz.out.cell (j := 4) rfl
        have y5 := HYz.out.cell (j := 5) rfl
        have x0 := HXz.out.cell (j := 0) rfl
        have x1 := HXz.out.cell (j := 1) rfl
        have x2 := HXz.out.cell (j := 2) rfl
        have x3 := HXz.out.cell (j := 3) rfl
        have x4 := HXz.out.cell (j := 4) rfl
        have x5 := HXz.out.cell (j := 5) rfl
        have f0 := HXz.out.free 0
        have f1 := HXz.out.free 1
        have f2 := HXz.out.free 2
        have f3 := HXz.out.free 3
        have f4 := HXz.out.free 4
        have f5 := HXz.out.free 5
        go_wp2_with fail
        refine bodyPost_ret (results_ct rfl _ _ w.heap.size 34 _ (0, 0) _ rfl ((((((HXz.out.set 0 (.int .i64 (F : Nat))).set 1 (.int .i64 (v + 1))).set 2 (.int .i64 x)).set 3 (.bool false)).set 4 (.int .i64 0)).set 5 (.int .i64 r.serial)) Try.underlying34 rfl (by kernel_rfl)) rfl ?_
        have hD1 : ¬ D = w.heap.size := by omega
        refine ⟨rfl, ⟨_, HRz.out.keep (Z := fun k => k = w.heap.size) (chg6 (S := fun k => k = w.heap.size) (b := w.heap.size) (Chg.refl _ _) (fun _ => rfl) _ _ _ _ _ _) hD1 (fun k hk => by have := hk.1; omega), fun k hk => Or.inr (by have := hk.1; omega)⟩,
          chg6 (b := w.heap.size) ((Chg.of_below (S := fun k => k = D) HBy.out).trans CZ.out (fun _ _ h => h)) (fun h => absurd h (Nat.lt_irrefl _)) _ _ _ _ _ _⟩
    · have hmlt : m < r.lasts.length := by omega
      obtain ⟨u, hu⟩ : ∃ u, r.lasts[m]? = some u := ⟨_, List.getElem?_eq_getElem hmlt⟩
      obtain ⟨ad1, rfl, u0⟩ := irow_at (Kd.F_now H3q.out) hu
      have hbusy := HF.out m u (by omega) hu
      have tm : decide ((m : Int) < (r.lasts.length : Int)) = true := decide_eq_true (by omega)
      have tn : decide (r.lasts.length ≤ m) = false := decide_eq_false (by omega)
      have hi0 : (0 : Int) ≤ m := by omega
      have hiN : (m : Int) < r.lasts.length := by omega
      have ei : (m : Int).toNat = m := by omega
      have hM1 : m < 1000000 := by have := HL2.out; omega
      clear hu
      cases hsl : slotB r m with
      | true =>
        go_wp2_with fail
        refine (refSlot_ (Kd.F_now H4q.out) H2.out HL.out (m : Int)).mono ?_
        rintro e w' ⟨rfl, q2, rfl⟩
        rw [show r.l.any (fun y => y.r.i == (m : Int)) = true from hsl]
        go_wp2_with fail
        go_roundw
        case rel => exact ⟨m + 1, q + q2, by omega, by go_num, by rw [HW.out, World.drewN_drewN]⟩
        case measure => simp [intOf]; omega
      | false =>
        have hu2 : 4294967295 ≤ u := by
          rcases hbusy with h | h
          · rw [hsl] at h; cases h
          · exact h
        have t4 : decide ((4294967295 : Int) ≤ u) = true := decide_eq_true hu2
        go_wp2_with fail
        refine (refSlot_ (Kd.F_now H4q.out) H2.out HL.out (m : Int)).mono ?_
        rintro e w' ⟨rfl, q2, rfl⟩
        rw [show r.l.any (fun y => y.r.i == (m : Int)) = false from hsl]
        have HDz : Hid (Blk (wr.drewN q2) D (rCells r (some ad1) c1 A2 c2) 49) := Lib.hid (HDq.out.drewN q2)
        have m2z : (wr.drewN q2).cell? ⟨D, 2, none⟩ = some (.slice (some ad1) r.lasts.length c1) := HDz.out.cell (j := 2) rfl
        have u0z : (wr.drewN q2).cell? (ad1.add m) = some (.int .i64 u) := u0
        go_wp2_with fail
        go_roundw
        case rel => exact ⟨m + 1, q + q2, by omega, by go_num, by rw [HW.out, World.drewN_drewN]⟩
        case measure => simp [intOf]; omega
end Go.Proofs.Ytccfjjaljckinaa.Tag
/- The document's table: one more, whichever way. No conditions. -/
namespace Go.Proofs.Ytccfjjaljckinaa.Tag
open Go.RowKit Go.Lib Go.Proofs.Ytccfjjaljckinaa.Mem Go.Proofs.Ytccfjjaljckinaa.IMap Go.Proofs.YtccfjjaljckinaaW.PrintWords Go.Proofs.Ytccfjjaljckinaa.PTagActs

def rlast (r : RTab) (F : Nat) : Int := (r.lasts[F]?).getD 0
def rissueX (r : RTab) (F : Nat) (x : Int) (ins : Bool) (key : Int) : Listed := ⟨⟨(F : Int), rlast r F + 1⟩, ⟨x, ins, if ins then key else 0, r.serial⟩⟩
def rissueT (r : RTab) (F : Nat) (x : Int) (ins : Bool) (key : Int) : RTab :=
  ⟨r.cap, r.serial + 1, if F = r.lasts.length then r.lasts ++ [1] else r.lasts.set F (rlast r F + 1), addL r.l (rissueX r F x ins key)⟩

theorem rissueAt {w : World} {S : Nat → Prop} {D : Nat} {r : RTab} (h : RefAt w S D r) (hl : r.l.length ≤ 1000000) (hl2 : r.lasts.length ≤ 1000000) {x key : Int} {ins : Bool} (hM : rmay r x = 0) (hser : r.serial < 9223372036854775807) (hser0 : 0 ≤ r.serial)
    {F : Nat} (hF : FirstFree r F) (hpos : ∀ v ∈ r.lasts, 0 ≤ v) :
    Calls Try.prog 38 #[.pointer (some ⟨D, 0, none⟩), .int .i64 x, .bool ins, .int .i64 key] w fun e w' => e = .returned (.tuple #[aggL (rissueX r F x ins key), .int .i64 0]) ∧
      (∃ S', RefAt w' S' D (rissueT r F x ins key) ∧ ∀ k, S' k → Wide S w k) ∧ Chg (fun k => k = D) w w' := by
  rcases hF.2 with hN | ⟨v, hv, hs, hv2⟩
  · have e0 : rlast r F = 0 := by unfold rlast; rw [hN, List.getElem?_eq_none (Nat.le_refl _)]; rfl
    have e1 : ∀ b, rissueX r F x b key = ⟨⟨(r.lasts.length : Nat), 1⟩, ⟨x, b, if b then key else 0, r.serial⟩⟩ := fun b => by unfold rissueX; rw [e0, hN]; rfl
    have e2 : ∀ b, rissueT r F x b key = ⟨r.cap, r.serial + 1, r.lasts ++ [1], addL r.l ⟨⟨(r.lasts.length : Nat), 1⟩, ⟨x, b, if b then key else 0, r.serial⟩⟩⟩ := fun b => by unfold rissueT; rw [if_pos hN, e1]
    rw [e1, e2]
    cases ins with
    | true => exact rissue_new_t h hl hl2 hM hser hser0 hF.1 hN
    | false => exact rissue_new_f h hl hl2 hM hser hser0 hF.1 hN
  · have hlt := (List.getElem?_eq_some_iff.1 hv).1
    have e0 : rlast r F = v := by unfold rlast; rw [hv]; rfl
    have e1 : ∀ b, rissueX r F x b key = ⟨⟨(F : Nat), v + 1⟩, ⟨x, b, if b then key else 0, r.serial⟩⟩ := fun b => by unfold rissueX; rw [e0]
    have e2 : ∀ b, rissueT r F x b key = ⟨r.cap, r.serial + 1, r.lasts.set F (v + 1), addL r.l ⟨⟨(F : Nat), v + 1⟩, ⟨x, b, if b then key else 0, r.serial⟩⟩⟩ := fun b => by unfold rissueT; rw [if_neg (by omega), e1, e0]
    rw [e1, e2]
    have hv0 := hpos v (List.mem_of_getElem? hv)
    cases ins with
    | true => exact rissue_old_t h hl hl2 hM hser hser0 hF.1 hv hs hv2 hv0
    | false => exact rissue_old_f h hl hl2 hM hser hser0 hF.1 hv hs hv2 hv0
end Go.Proofs.Ytccfjjaljckinaa.Tag
