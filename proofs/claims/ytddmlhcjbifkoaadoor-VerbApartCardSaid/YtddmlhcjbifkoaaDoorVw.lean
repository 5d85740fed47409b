/- Items and commands, part Vw of this seat's texts: plain facts and walks. No conditions. -/
import Derived.Test.YtddmlhcjbifkoaaDoorVv
import Derived.Test.YtddmlhcjbifkoaaDoorPVerbShowsx1
import Derived.Test.YtddmlhcjbifkoaaDoorWords2
import Derived.Test.YtddmlhcjbifkoaaDoorShelfD
import Derived.Maps.AppendAt
/- What words say, by the program, whatever the words; the document's examples. No conditions. -/
namespace Go.Proofs.YtddmlhcjbifkoaaDoor.Verb
open Go.Lib Go.RowKit Go.Proofs.YtddmlhcjbifkoaaDoor.Mem Go.Proofs.YtddmlhcjbifkoaaDoorW.PrintWords Go.Proofs.YtddmlhcjbifkoaaDoor.Item Go.Proofs.YtddmlhcjbifkoaaDoor.PVerbShows
theorem parse_ (A : Option Addr) (c : Nat) (ws : List ByteArray) (w : World) (hC : Kd.C Kd.string w A ws.length ws) (hc : ws.length ≤ c) (hz : ∀ y ∈ ws, y.size ≤ 1000000) (hl : ws.length ≤ 1000000) (hT : Tbl w) (he : Env w) :
    Calls Tryd.prog 32 #[.slice A ws.length c] w (ParsePost ws w) := by
  cases ws with
  | nil => exact parse_nil A c w
  | cons x r =>
    cases h : findC x 0 with
    | none => exact parse_none A c x r w hC hT h
    | some j =>
      by_cases hl2 : (wantsF j).length = r.length
      · exact parse_loop A c x r w hC hc (fun y hy => hz y (List.mem_cons_of_mem _ hy)) hT he h hl2
      · exact parse_bad A c x r w hC hT h hl2 (by rw [List.length_cons] at hl; omega)
theorem c_cells {w : World} {g : Nat} {l : List ByteArray} {t : TypeId} (h : w.heap[g]? = some (.cells (l.map Value.string).toArray t (0, 0))) (hl : l.length ≤ 9223372036854775807) : Kd.C Kd.string w (some ⟨g, 0, none⟩) l.length l := by
  refine ⟨rfl, hl, fun _ => ⟨⟨g, 0, none⟩, rfl, fun j p hj => ⟨[.string p], rfl, rfl, fun i u hu => ?_⟩⟩⟩
  cases i with
  | succ i => simp at hu
  | zero =>
    simp only [List.getElem?_cons_zero, Option.some.injEq] at hu
    subst hu
    have e : (⟨g, 0, none⟩ : Addr).add (j * Kd.string.sz + 0) = ⟨g, j, none⟩ := by
      show (⟨g, 0, none⟩ : Addr).add (j * 1 + 0) = _
      rw [Addr.add_lit]; simp
    rw [e]
    simp [World.cell?, h, hj]
def w1s : List ByteArray := [⟨#[105, 110, 115, 101, 114, 116]⟩, ⟨#[53]⟩, ⟨#[45, 55]⟩]
def w2s : List ByteArray := [⟨#[114, 101, 118, 111, 107, 101]⟩, ⟨#[48, 46, 49]⟩]
theorem said1 : parseR w1s = (⟨1, 0, 0, 5, -7⟩, 0) := by decide +kernel
theorem said2 : parseR w2s = (⟨3, 0, 1, 0, 0⟩, 0) := by decide +kernel
attribute [local go_sem high] eqA52
set_option maxRecDepth 100000 in
set_option maxHeartbeats 1000000 in
theorem awake31 (w : World) (hT : Tbl w) (he : Env w) : Calls Tryd.prog 31 #[] w fun e w' => e = .returned (.bool true) ∧ Below w.heap.size w w' := by
  have hu52 := Tryd.underlying52
  have hu50 := Tryd.underlying50
  have HT := Lib.hid hT
  have HE := Lib.hid he
  clear hT he
  have hb0 : Below w.heap.size w (w.alloc (Obj.cells #[Value.string ⟨#[105, 110, 115, 101, 114, 116]⟩, Value.string ⟨#[53]⟩, Value.string ⟨#[45, 55]⟩] 9)) := (Below.refl _ _).alloc (Nat.le_refl _) _
  have CP1 := parse_ (some ⟨w.heap.size, 0, none⟩) 3 w1s _ (c_cells (w := w.alloc (Obj.cells #[Value.string ⟨#[105, 110, 115, 101, 114, 116]⟩, Value.string ⟨#[53]⟩, Value.string ⟨#[45, 55]⟩] 9)) (g := w.heap.size) (t := 9) (Blk.new w #[Value.string ⟨#[105, 110, 115, 101, 114, 116]⟩, Value.string ⟨#[53]⟩, Value.string ⟨#[45, 55]⟩] 9) (by decide)) (by decide) (by decide) (by decide) (HT.out.step hb0) (HE.out.step hb0)
  unfold ParsePost at CP1
  rw [said1] at CP1
  have CP1 := Lib.hid CP1
  have HB0 := Lib.hid hb0
  clear hb0
  go_enter Tryd.func31, Tryd.ntmps31
  go_wp2_with fail
  refine CP1.out.mono ?_
  rintro e w1 ⟨rfl, hb⟩
  have HB1 := Lib.hid (HB0.out.trans (hb.mono HB0.out.size))
  clear hb HB0 CP1
  have HX : Hid (Blk ((w1.alloc (Obj.cells #[Value.int .i64 1, .int .i64 0, .int .i64 0, .int .i64 5, .int .i64 (-7)] 52)).alloc (Obj.cells #[Value.string ⟨#[114, 101, 118, 111, 107, 101]⟩, Value.string ⟨#[48, 46, 49]⟩] 9)) w1.heap.size #[.int .i64 1, .int .i64 0, .int .i64 0, .int .i64 5, .int .i64 (-7)] 52) := Lib.hid ((Blk.new _ _ _).alloc _)
  have hb1 : Below w.heap.size w ((w1.alloc (Obj.cells #[Value.int .i64 1, .int .i64 0, .int .i64 0, .int .i64 5, .int .i64 (-7)] 52)).alloc (Obj.cells #[Value.string ⟨#[114, 101, 118, 111, 107, 101]⟩, Value.string ⟨#[48, 46, 49]⟩] 9)) := (HB1.out.alloc HB1.out.size _).alloc (by have := HB1.out.size; simp; omega) _
  have CP2 := parse_ (some ⟨w1.heap.size + 1, 0, none⟩) 2 w2s _ (c_cells (w := (w1.alloc (Obj.cells #[Value.int .i64 1, .int .i64 0, .int .i64 0, .int .i64 5, .int .i64 (-7)] 52)).alloc (Obj.cells #[Value.string ⟨#[114, 101, 118, 111, 107, 101]⟩, Value.string ⟨#[48, 46, 49]⟩] 9)) (g := w1.heap.size + 1) (t := 9) (Blk.at_ (by simp) #[Value.string ⟨#[114, 101, 118, 111, 107, 101]⟩, Value.string ⟨#[48, 46, 49]⟩] 9) (by decide)) (by decide) (by decide) (by decide) (HT.out.step hb1) (HE.out.step hb1)
  unfold ParsePost at CP2
  rw [said2] at CP2
  have CP2 := Lib.hid CP2
  have HB2 := Lib.hid hb1
  clear hb1 HB1
  go_wp2_with fail
  refine CP2.out.mono ?_
  rintro e w2 ⟨rfl, hb⟩
  have HX2 := HX.out.below hb
  have HB3 := Lib.hid (HB2.out.trans (hb.mono HB2.out.size))
  have hlt : w1.heap.size < w2.heap.size := HX2.lt
  have d0 := HX2.cell (j := 0) rfl
  have d1 := HX2.cell (j := 1) rfl
  have d2 := HX2.cell (j := 2) rfl
  have d3 := HX2.cell (j := 3) rfl
  have d4 := HX2.cell (j := 4) rfl
  have HB4 : Hid (Below w.heap.size w (w2.alloc (Obj.cells #[Value.int .i64 3, .int .i64 0, .int .i64 1, .int .i64 0, .int .i64 0] 52))) := Lib.hid (HB3.out.alloc HB3.out.size _)
  have d0' := (HX2.alloc (Obj.cells #[Value.int .i64 3, .int .i64 0, .int .i64 1, .int .i64 0, .int .i64 0] 52)).cell (j := 0) rfl
  have d1' := (HX2.alloc (Obj.cells #[Value.int .i64 3, .int .i64 0, .int .i64 1, .int .i64 0, .int .i64 0] 52)).cell (j := 1) rfl
  have d2' := (HX2.alloc (Obj.cells #[Value.int .i64 3, .int .i64 0, .int .i64 1, .int .i64 0, .int .i64 0] 52)).cell (j := 2) rfl
  have d3' := (HX2.alloc (Obj.cells #[Value.int .i64 3, .int .i64 0, .int .i64 1, .int .i64 0, .int .i64 0] 52)).cell (j := 3) rfl
  have d4' := (HX2.alloc (Obj.cells #[Value.int .i64 3, .int .i64 0, .int .i64 1, .int .i64 0, .int .i64 0] 52)).cell (j := 4) rfl
  clear hb HB2 CP2 HX HX2
  go_wp2_with fail
  go_ret
  exact ⟨rfl, HB4.out⟩
end Go.Proofs.YtddmlhcjbifkoaaDoor.Verb
/- The law on any words: both say the same. No conditions. -/
namespace Go.Proofs.YtddmlhcjbifkoaaDoor.Verb
open Go.Lib Go.RowKit Go.Proofs.YtddmlhcjbifkoaaDoor.Mem Go.Proofs.YtddmlhcjbifkoaaDoorW.PrintWords Go.Proofs.YtddmlhcjbifkoaaDoor.Item Go.Proofs.YtddmlhcjbifkoaaDoor.PVerbShows
attribute [local go_sem high] eqA52
set_option maxRecDepth 100000 in
set_option maxHeartbeats 1000000 in
theorem parses_long (A : Option Addr) (n c : Nat) (w : World) (hT : Tbl w) (he : Env w) (hbig : 20 < n) : Calls Tryd.prog 11 #[.slice A n c] w fun e w' => e = .returned (.bool true) ∧ Below w.heap.size w w' := by
  have HAW : Hid (∀ w1, Below w.heap.size w w1 → Calls Tryd.prog 31 #[] w1 fun e w' => e = .returned (.bool true) ∧ Below w1.heap.size w1 w') := Lib.hid (fun w1 hb => awake31 w1 (hT.step hb) (he.step hb))
  have t1 : decide ((n : Int) > 20) = true := decide_eq_true (by omega)
  clear hT he hbig
  go_enter Tryd.func11, Tryd.ntmps11
  go_wp2_with fail
  refine (HAW.out _ (Below.refl _ _)).mono ?_
  rintro e w1 ⟨rfl, hb1⟩
  have HB1 := Lib.hid hb1; clear hb1
  go_wp2_with fail
  refine (HAW.out _ HB1.out).mono ?_
  rintro e w2 ⟨rfl, hb2⟩
  have HB2 := Lib.hid hb2; clear hb2
  go_wp2_with fail
  go_ret
  exact ⟨rfl, HB1.out.trans (HB2.out.mono HB1.out.size)⟩
set_option maxRecDepth 100000 in
set_option maxHeartbeats 1000000 in
theorem parses_short (A : Option Addr) (c : Nat) (ws : List ByteArray) (w : World) (hC : Kd.C Kd.string w A ws.length ws) (hc : ws.length ≤ c) (hT : Tbl w) (he : Env w) (hl : ws.length ≤ 20) : Calls Tryd.prog 11 #[.slice A ws.length c] w fun e w' => e = .returned (.bool true) ∧ Below w.heap.size w w' := by
  have hu52 := Tryd.underlying52
  have hu50 := Tryd.underlying50
  have HAW : Hid (∀ w1, Below w.heap.size w w1 → Calls Tryd.prog 31 #[] w1 fun e w' => e = .returned (.bool true) ∧ Below w1.heap.size w1 w') := Lib.hid (fun w1 hb => awake31 w1 (hT.step hb) (he.step hb))
  obtain ⟨s, q, hsq⟩ : ∃ s q, parseR ws = (s, q) := ⟨_, _, rfl⟩
  have CP : Hid (∀ w1, (∀ y ∈ ws, y.size ≤ 100) → Below w.heap.size w w1 → Calls Tryd.prog 32 #[.slice A ws.length c] w1 fun e w' => e = .returned (.tuple #[.agg (cellsS s), .int .i64 q]) ∧ Below w1.heap.size w1 w') := Lib.hid (fun w1 hz hb => by
    have := parse_ A c ws w1 (Kd.C_below hC hb) hc (fun y hy => by have := hz y hy; omega) (by omega) (hT.step hb) (he.step hb)
    unfold ParsePost at this
    rw [hsq] at this
    exact this)
  have CR : Hid (∀ w1, (∀ y ∈ ws, y.size ≤ 100) → Below w.heap.size w w1 → Calls Tryd.prog 33 #[.slice A ws.length c] w1 fun e w' => e = .returned (.tuple #[.agg (cellsS s), .int .i64 q]) ∧ Below w1.heap.size w1 w') := Lib.hid (fun w1 hz hb => by
    have h := parse_ev ws (fun y hy => by have := hz y hy; omega) (by omega) (Nat.le_refl 1400)
    rw [hsq] at h
    exact whilomref21_Parse.calls 1400 A c ws s.say s.i s.g s.t s.n q w1 (Kd.C_below hC hb) hc h)
  have HC := Lib.hid hC
  obtain ⟨n, hn⟩ : ∃ n, n = ws.length := ⟨_, rfl⟩
  rw [← hn] at CP CR hl ⊢
  have HN := Lib.hid hn
  have t1 : decide ((n : Int) > 20) = false := decide_eq_false (by omega)
  clear hsq hC hT he hn
  go_enter Tryd.func11, Tryd.ntmps11
  go_wp2_with fail
  refine (HAW.out _ (Below.refl _ _)).mono ?_
  rintro e w1 ⟨rfl, hb1⟩
  have HB1 := Lib.hid hb1; clear hb1
  go_wp2_with fail
  go_loopw [3] (fun i wr => ∃ k : Nat, k ≤ n ∧ i = .int .i64 k ∧ (∀ y ∈ ws.take k, y.size ≤ 100) ∧ wr = w1) (fun i _ => n - (intOf i).toNat)
  case atStart => exact ⟨0, Nat.zero_le _, rfl, fun y hy => by simp at hy, rfl⟩
  case round =>
    obtain ⟨k, hk, rfl, hz, rfl⟩ := hrel
    have HZ := Lib.hid hz
    clear hz
    by_cases hlt : k < n
    · obtain ⟨y, hy⟩ : ∃ y, ws[k]? = some y := ⟨_, List.getElem?_eq_getElem (by rw [← HN.out]; exact hlt)⟩
      have HY := Lib.hid hy
      obtain ⟨ad, hA, cy⟩ := cell_str (Kd.C_below HC.out HB1.out) hy
      cases hA
      have k0 : (0 : Int) ≤ k := by omega
      have k1 : (k : Int) < n := by omega
      have k2 : ((k : Int)).toNat = k := by omega
      clear hy
      by_cases hb : 100 < y.size
      · have t2 : decide ((y.size : Int) > 100) = true := decide_eq_true (by omega)
        go_wp2_with fail
        go_ret
        exact ⟨rfl, HB1.out⟩
      · have t2 : decide ((y.size : Int) > 100) = false := decide_eq_false (by omega)
        go_wp2_with fail
        go_roundw
        case rel =>
          refine ⟨k + 1, by omega, by go_num, fun z hz => ?_, by first | rfl | trivial⟩
          rw [List.take_add_one, HY.out] at hz
          rcases List.mem_append.1 hz with hz | hz
          · exact HZ.out z hz
          · simp at hz; subst hz; omega
        case measure => simp [intOf]; omega
    · have HZA : Hid (∀ y ∈ ws, y.size ≤ 100) := Lib.hid (by have := HZ.out; rw [List.take_of_length_le (by rw [← HN.out]; omega)] at this; exact this)
      clear HZ
      go_wp2_with fail
      refine (CP.out _ HZA.out HB1.out).mono ?_
      rintro e w2 ⟨rfl, hb⟩
      have HB2 := Lib.hid (HB1.out.trans (hb.mono HB1.out.size))
      have HX : Hid (Blk (w2.alloc (Obj.cells #[Value.int .i64 s.say, .int .i64 s.i, .int .i64 s.g, .int .i64 s.t, .int .i64 s.n] 52)) w2.heap.size #[.int .i64 s.say, .int .i64 s.i, .int .i64 s.g, .int .i64 s.t, .int .i64 s.n] 52) := Lib.hid (Blk.new _ _ _)
      have HB3 : Hid (Below w.heap.size w (w2.alloc (Obj.cells #[Value.int .i64 s.say, .int .i64 s.i, .int .i64 s.g, .int .i64 s.t, .int .i64 s.n] 52))) := Lib.hid (HB2.out.alloc HB2.out.size _)
      clear hb HB2
      go_wp2_with fail
      refine (CR.out _ HZA.out HB3.out).mono ?_
      rintro e w4 ⟨rfl, hb⟩
      have HX4 := HX.out.below hb
      have HB4 := Lib.hid (HB3.out.trans (hb.mono HB3.out.size))
      have hX5 := HX4.alloc (Obj.cells #[Value.int .i64 s.say, .int .i64 s.i, .int .i64 s.g, .int .i64 s.t, .int .i64 s.n] 52)
      have hlt := HX4.lt
      have d0 := hX5.cell (j := 0) rfl
      have d1 := hX5.cell (j := 1) rfl
      have d2 := hX5.cell (j := 2) rfl
      have d3 := hX5.cell (j := 3) rfl
      have d4 := hX5.cell (j := 4) rfl
      have HB5 : Hid (Below w.heap.size w (w4.alloc (Obj.cells #[Value.int .i64 s.say, .int .i64 s.i, .int .i64 s.g, .int .i64 s.t, .int .i64 s.n] 52))) := Lib.hid (HB4.out.alloc HB4.out.size _)
      clear hb HX HX4 HB3 hX5
      go_wp2_with fail
      go_ret
      exact ⟨by simp, HB5.out⟩
end Go.Proofs.YtddmlhcjbifkoaaDoor.Verb
/- The law on numbers' and handles' texts. No conditions. -/
namespace Go.Proofs.YtddmlhcjbifkoaaDoor.Verb
open Go.Lib Go.RowKit Go.Proofs.YtddmlhcjbifkoaaDoor.Mem Go.Proofs.YtddmlhcjbifkoaaDoorW.PrintWords Go.Proofs.YtddmlhcjbifkoaaDoor.Item Go.Proofs.YtddmlhcjbifkoaaDoor.PVerbShows Go.Proofs.YtddmlhcjbifkoaaDoor.PItemReads
set_option maxRecDepth 100000 in
set_option maxHeartbeats 1000000 in
theorem refHandle (i g : Int) (w : World) (hi : In64 i) (hg : In64 g) :
    Calls Tryd.prog 37 #[.agg #[.int .i64 i, .int .i64 g]] w fun e w' => e = .returned (.string (mk (handleTxt i g))) ∧ Below w.heap.size w w' := by
  have hu50 := Tryd.underlying50
  by_cases h0 : i < 0
  · have E : Hid (mk (handleTxt i g) = (⟨#[]⟩ : ByteArray)) := Lib.hid (by unfold handleTxt; rw [if_pos (Or.inl h0)]; rfl)
    have t0 : decide (i < 0) = true := decide_eq_true h0
    clear hi hg h0
    go_enter Tryd.func37, Tryd.ntmps37
    go_wp2_with fail
    go_ret
    exact ⟨by rw [E.out]; rfl, (Below.refl _ _).alloc (Nat.le_refl _) _⟩
  have t0 : decide (i < 0) = false := decide_eq_false h0
  by_cases h1 : g < 0
  · have E : Hid (mk (handleTxt i g) = (⟨#[]⟩ : ByteArray)) := Lib.hid (by unfold handleTxt; rw [if_pos (Or.inr h1)]; rfl)
    have t1 : decide (g < 0) = true := decide_eq_true h1
    clear hi hg h0 h1
    go_enter Tryd.func37, Tryd.ntmps37
    go_wp2_with fail
    go_ret
    exact ⟨by rw [E.out]; rfl, (Below.refl _ _).alloc (Nat.le_refl _) _⟩
  have t1 : decide (g < 0) = false := decide_eq_false h1
  have CA : Hid (∀ w1, Below w.heap.size w w1 → Calls Tryd.prog 35 #[.int .i64 i] w1 fun e w' => e = .returned (.string (mk (itoa i))) ∧ Below w1.heap.size w1 w') := Lib.hid (fun w1 hb => whilomref02_Number.calls 30 i _ w1 (number_ev hi (Nat.le_refl _)))
  have CG : Hid (∀ w1, Below w.heap.size w w1 → Calls Tryd.prog 35 #[.int .i64 g] w1 fun e w' => e = .returned (.string (mk (itoa g))) ∧ Below w1.heap.size w1 w') := Lib.hid (fun w1 hb => whilomref02_Number.calls 30 g _ w1 (number_ev hg (Nat.le_refl _)))
  have E : Hid ((mk (itoa i) ++ (⟨#[46]⟩ : ByteArray)) ++ mk (itoa g) = mk (handleTxt i g)) := Lib.hid (by unfold handleTxt; rw [if_neg (by omega), hText_mk])
  have l1 : (mk (itoa i)).size ≤ 20 := by rw [mk_size]; exact itoa_len hi
  have l2 : (mk (itoa g)).size ≤ 20 := by rw [mk_size]; exact itoa_len hg
  have l3 : (mk (itoa i) ++ (⟨#[46]⟩ : ByteArray)).size ≤ 21 := by
    rw [show (⟨#[46]⟩ : ByteArray) = mk [46] from rfl, mk_append, mk_size, List.length_append]
    have := itoa_len hi
    simp; omega
  generalize mk (itoa i) = ti at *
  generalize mk (itoa g) = tg at *
  have l4 : ti.size + 1 ≤ 9223372036854775807 := by omega
  have l5 : (ti ++ (⟨#[46]⟩ : ByteArray)).size + tg.size ≤ 9223372036854775807 := by omega
  clear hi hg h0 h1
  go_enter Tryd.func37, Tryd.ntmps37
  go_wp2_with fail
  have HX : Hid (Blk (w.alloc (Obj.cells #[Value.int .i64 i, .int .i64 g] 50)).drew w.heap.size #[.int .i64 i, .int .i64 g] 50) := Lib.hid (Blk.new _ _ _).drew
  have HB : Hid (Below w.heap.size w (w.alloc (Obj.cells #[Value.int .i64 i, .int .i64 g] 50)).drew) := Lib.hid ((Below.refl _ _).alloc (Nat.le_refl _) _).drew
  refine Sq.region_ (fun w' => w'.cell? ⟨w.heap.size, 0, none⟩ = some (.int .i64 i) ∧ w'.cell? ⟨w.heap.size, 1, none⟩ = some (.int .i64 g)) [2, 6] [(0, some 11), (1, some 12), (4, some 15), (5, some 16), (2, some 13), (3, some 14), (6, some 17), (7, some 18), (8, some 2)] (by kernel_rfl) rfl (by kernel_rfl) (fun _ _ N _ _ h => by cases N <;> exact h) ⟨HX.out.cell (j := 0) rfl, HX.out.cell (j := 1) rfl⟩ (fun hHeld => ?_)
  generalize (w.alloc (Obj.cells #[Value.int .i64 i, .int .i64 g] 50)).drew = wd at *
  repeat (first | (refine Sq.q_ (v := ?_) (a' := ?_) rfl rfl rfl (by rfl) ?_ ?_ ?_; rotate_left 2; (· (rintro w' ⟨s0, s1⟩; go_simp; (first | with_reducible rfl | rw [if_neg (by omega)]))); (· (simp only [Act.put, List.setIfInBounds_toArray, List.set_cons_zero, List.set_cons_succ]; rfl))) | (refine Sq.o_ (a' := ?_) rfl rfl rfl (by rfl) ?_ ?_; rotate_left 1; (· (simp only [Act.put, List.setIfInBounds_toArray, List.set_cons_zero, List.set_cons_succ]; rfl))))
  refine Sq.c_ #[.int .i64 i] Tryd.func35 (by kernel_rfl) rfl rfl rfl rfl (by rfl) rfl (by (try simp only [List.map_toArray, List.map_cons, List.map_nil]); first | done | rfl) ?_
  refine (CA.out _ HB.out).mono ?_
  rintro e w1 ⟨rfl, hb⟩
  have HX' := Lib.hid (HX.out.below hb)
  have HB' := Lib.hid (HB.out.trans (hb.mono HB.out.size))
  clear hb HX HB
  have HX := HX'
  have HB := HB'
  clear HX' HB'
  refine ⟨_, ?_, rfl, ?_, ⟨HX.out.cell (j := 0) rfl, HX.out.cell (j := 1) rfl⟩, fun hHeld' => ?_⟩
  rotate_left 1
  (· (simp only [Act.put, List.setIfInBounds_toArray, List.set_cons_zero, List.set_cons_succ]; rfl))
  clear hHeld
  have hHeld := hHeld'
  clear hHeld'
  repeat (first | (refine Sq.q_ (v := ?_) (a' := ?_) rfl rfl rfl (by rfl) ?_ ?_ ?_; rotate_left 2; (· (rintro w' ⟨s0, s1⟩; go_simp; (first | with_reducible rfl | rw [if_neg (by omega)]))); (· (simp only [Act.put, List.setIfInBounds_toArray, List.set_cons_zero, List.set_cons_succ]; rfl))) | (refine Sq.o_ (a' := ?_) rfl rfl rfl (by rfl) ?_ ?_; rotate_left 1; (· (simp only [Act.put, List.setIfInBounds_toArray, List.set_cons_zero, List.set_cons_succ]; rfl))))
  refine Sq.c_ #[.int .i64 g] Tryd.func35 (by kernel_rfl) rfl rfl rfl rfl (by rfl) rfl (by (try simp only [List.map_toArray, List.map_cons, List.map_nil]); first | done | rfl) ?_
  refine (CG.out _ HB.out).mono ?_
  rintro e w1 ⟨rfl, hb⟩
  have HX' := Lib.hid (HX.out.below hb)
  have HB' := Lib.hid (HB.out.trans (hb.mono HB.out.size))
  clear hb HX HB
  have HX := HX'
  have HB := HB'
  clear HX' HB'
  refine ⟨_, ?_, rfl, ?_, ⟨HX.out.cell (j := 0) rfl, HX.out.cell (j := 1) rfl⟩, fun hHeld' => ?_⟩
  rotate_left 1
  (· (simp only [Act.put, List.setIfInBounds_toArray, List.set_cons_zero, List.set_cons_succ]; rfl))
  clear hHeld
  have hHeld := hHeld'
  clear hHeld'
  repeat (first | (refine Sq.q_ (v := ?_) (a' := ?_) rfl rfl rfl (by rfl) ?_ ?_ ?_; rotate_left 2; (· (rintro w' ⟨s0, s1⟩; go_simp; (first | with_reducible rfl | rw [if_neg (by omega)]))); (· (simp only [Act.put, List.setIfInBounds_toArray, List.set_cons_zero, List.set_cons_succ]; rfl))) | (refine Sq.o_ (a' := ?_) rfl rfl rfl (by rfl) ?_ ?_; rotate_left 1; (· (simp only [Act.put, List.setIfInBounds_toArray, List.set_cons_zero, List.set_cons_succ]; rfl))))
  refine Sq.e_ ?_
  go_wp2_with fail
  go_ret
  exact ⟨by rw [← E.out]; rfl, HB.out⟩

set_option maxRecDepth 100000 in
set_option maxHeartbeats 1000000 in
theorem law_texts (n i g : Int) (w : World) (hn : In64 n) (hi : In64 i) (hg : In64 g) (hT : Tbl w) (he : Env w) :
    Calls Tryd.prog 12 #[.int .i64 n, .agg #[.int .i64 i, .int .i64 g]] w fun e w' => e = .returned (.bool true) ∧ Below w.heap.size w w' := by
  have hu50 := Tryd.underlying50
  have HAW : Hid (∀ w1, Below w.heap.size w w1 → Calls Tryd.prog 31 #[] w1 fun e w' => e = .returned (.bool true) ∧ Below w1.heap.size w1 w') := Lib.hid (fun w1 hb => awake31 w1 (hT.step hb) (he.step hb))
  have C1 : Hid (∀ w1, Below w.heap.size w w1 → Calls Tryd.prog 34 #[.int .i64 n] w1 fun e w' => e = .returned (.string (mk (itoa n))) ∧ Below w1.heap.size w1 w') := Lib.hid (fun w1 hb => number_ n w1 hn (he.step hb))
  have C2 : Hid (∀ w1, Calls Tryd.prog 35 #[.int .i64 n] w1 fun e w' => e = .returned (.string (mk (itoa n))) ∧ Below w1.heap.size w1 w') := Lib.hid (fun w1 => whilomref02_Number.calls 30 n _ w1 (number_ev hn (Nat.le_refl _)))
  have C3 : Hid (∀ w1, Below w.heap.size w w1 → Calls Tryd.prog 36 #[.agg #[.int .i64 i, .int .i64 g]] w1 fun e w' => e = .returned (.string (mk (handleTxt i g))) ∧ Below w1.heap.size w1 w') := Lib.hid (fun w1 hb => handle_ i g w1 hi hg (he.step hb))
  have C4 : Hid (∀ w1, Calls Tryd.prog 37 #[.agg #[.int .i64 i, .int .i64 g]] w1 fun e w' => e = .returned (.string (mk (handleTxt i g))) ∧ Below w1.heap.size w1 w') := Lib.hid (fun w1 => refHandle i g w1 hi hg)
  generalize mk (itoa n) = tn at *
  generalize mk (handleTxt i g) = th at *
  clear hn hi hg hT he
  obtain ⟨wa, hwa⟩ : ∃ wa, wa = w.alloc (Obj.cells #[Value.int .i64 i, .int .i64 g] 50) := ⟨_, rfl⟩
  have HA : Hid (Below w.heap.size w wa) := by subst hwa; exact Lib.hid ((Below.refl _ _).alloc (Nat.le_refl _) _)
  have HBa : Hid (Blk wa w.heap.size #[.int .i64 i, .int .i64 g] 50) := by subst hwa; exact Lib.hid (Blk.new _ _ _)
  have HE := Lib.hid hwa
  clear hwa
  go_enter Tryd.func12, Tryd.ntmps12
  go_wp2_with fail
  rw [← HE.out]
  refine (HAW.out _ HA.out).mono ?_
  rintro e w1 ⟨rfl, hb⟩
  have HX : Hid (Blk w1.drew w.heap.size #[.int .i64 i, .int .i64 g] 50) := Lib.hid (HBa.out.below hb).drew
  have HB : Hid (Below w.heap.size w w1.drew) := Lib.hid (HA.out.trans (hb.mono HA.out.size)).drew
  clear hb HE HBa HA HAW
  go_wp2_with fail
  refine Sq.region_ (fun w' => w'.cell? ⟨w.heap.size, 0, none⟩ = some (.int .i64 i) ∧ w'.cell? ⟨w.heap.size, 1, none⟩ = some (.int .i64 g)) [1, 3, 7, 9] [(0, some 7), (2, some 9), (1, some 8), (3, some 10), (4, some 11), (5, some 12), (6, some 13), (8, some 15), (7, some 14), (9, some 16), (10, some 17), (11, some 18), (12, some 4)] (by kernel_rfl) rfl (by kernel_rfl) (fun _ _ N _ _ h => by cases N <;> exact h) ⟨HX.out.cell (j := 0) rfl, HX.out.cell (j := 1) rfl⟩ (fun hHeld => ?_)
  generalize w1.drew = wd at *
  repeat (first | (refine Sq.q_ (v := ?_) (a' := ?_) rfl rfl rfl (by rfl) ?_ ?_ ?_; rotate_left 2; (· (rintro w' ⟨s0, s1⟩; go_simp; (first | with_reducible rfl | rw [if_neg (by omega)]))); (· (simp only [Act.put, List.setIfInBounds_toArray, List.set_cons_zero, List.set_cons_succ]; rfl))) | (refine Sq.o_ (a' := ?_) rfl rfl rfl (by rfl) ?_ ?_; rotate_left 1; (· (simp only [Act.put, List.setIfInBounds_toArray, List.set_cons_zero, List.set_cons_succ]; rfl))))
  refine Sq.c_ #[.int .i64 n] Tryd.func34 (by kernel_rfl) rfl rfl rfl rfl (by rfl) rfl (by (try simp only [List.map_toArray, List.map_cons, List.map_nil]); first | done | rfl) ?_
  refine (C1.out _ HB.out).mono ?_
  rintro e w2 ⟨rfl, hb⟩
  have HX' := Lib.hid (HX.out.below hb)
  have HB' := Lib.hid (HB.out.trans (hb.mono HB.out.size))
  clear hb HX HB
  have HX := HX'
  have HB := HB'
  clear HX' HB'
  refine ⟨_, ?_, rfl, ?_, ⟨HX.out.cell (j := 0) rfl, HX.out.cell (j := 1) rfl⟩, fun hHeld' => ?_⟩
  rotate_left 1
  (· (simp only [Act.put, List.setIfInBounds_toArray, List.set_cons_zero, List.set_cons_succ]; rfl))
  clear hHeld
  have hHeld := hHeld'
  clear hHeld'
  repeat (first | (refine Sq.q_ (v := ?_) (a' := ?_) rfl rfl rfl (by rfl) ?_ ?_ ?_; rotate_left 2; (· (rintro w' ⟨s0, s1⟩; go_simp; (first | with_reducible rfl | rw [if_neg (by omega)]))); (· (simp only [Act.put, List.setIfInBounds_toArray, List.set_cons_zero, List.set_cons_succ]; rfl))) | (refine Sq.o_ (a' := ?_) rfl rfl rfl (by rfl) ?_ ?_; rotate_left 1; (· (simp only [Act.put, List.setIfInBounds_toArray, List.set_cons_zero, List.set_cons_succ]; rfl))))
  refine Sq.c_ #[.int .i64 n] Tryd.func35 (by kernel_rfl) rfl rfl rfl rfl (by rfl) rfl (by (try simp only [List.map_toArray, List.map_cons, List.map_nil]); first | done | rfl) ?_
  refine (C2.out _).mono ?_
  rintro e w3 ⟨rfl, hb⟩
  have HX' := Lib.hid (HX.out.below hb)
  have HB' := Lib.hid (HB.out.trans (hb.mono HB.out.size))
  clear hb HX HB
  have HX := HX'
  have HB := HB'
  clear HX' HB'
  refine ⟨_, ?_, rfl, ?_, ⟨HX.out.cell (j := 0) rfl, HX.out.cell (j := 1) rfl⟩, fun hHeld' => ?_⟩
  rotate_left 1
  (· (simp only [Act.put, List.setIfInBounds_toArray, List.set_cons_zero, List.set_cons_succ]; rfl))
  clear hHeld
  have hHeld := hHeld'
  clear hHeld'
  repeat (first | (refine Sq.q_ (v := ?_) (a' := ?_) rfl rfl rfl (by rfl) ?_ ?_ ?_; rotate_left 2; (· (rintro w' ⟨s0, s1⟩; go_simp; (first | with_reducible rfl | rw [if_neg (by omega)]))); (· (simp only [Act.put, List.setIfInBounds_toArray, List.set_cons_zero, List.set_cons_succ]; rfl))) | (refine Sq.o_ (a' := ?_) rfl rfl rfl (by rfl) ?_ ?_; rotate_left 1; (· (simp only [Act.put, List.setIfInBounds_toArray, List.set_cons_zero, List.set_cons_succ]; rfl))))
  refine Sq.c_ #[.agg #[.int .i64 i, .int .i64 g]] Tryd.func36 (by kernel_rfl) rfl rfl rfl rfl (by rfl) rfl (by (try simp only [List.map_toArray, List.map_cons, List.map_nil]); first | done | rfl) ?_
  refine (C3.out _ HB.out).mono ?_
  rintro e w4 ⟨rfl, hb⟩
  have HX' := Lib.hid (HX.out.below hb)
  have HB' := Lib.hid (HB.out.trans (hb.mono HB.out.size))
  clear hb HX HB
  have HX := HX'
  have HB := HB'
  clear HX' HB'
  refine ⟨_, ?_, rfl, ?_, ⟨HX.out.cell (j := 0) rfl, HX.out.cell (j := 1) rfl⟩, fun hHeld' => ?_⟩
  rotate_left 1
  (· (simp only [Act.put, List.setIfInBounds_toArray, List.set_cons_zero, List.set_cons_succ]; rfl))
  clear hHeld
  have hHeld := hHeld'
  clear hHeld'
  repeat (first | (refine Sq.q_ (v := ?_) (a' := ?_) rfl rfl rfl (by rfl) ?_ ?_ ?_; rotate_left 2; (· (rintro w' ⟨s0, s1⟩; go_simp; (first | with_reducible rfl | rw [if_neg (by omega)]))); (· (simp only [Act.put, List.setIfInBounds_toArray, List.set_cons_zero, List.set_cons_succ]; rfl))) | (refine Sq.o_ (a' := ?_) rfl rfl rfl (by rfl) ?_ ?_; rotate_left 1; (· (simp only [Act.put, List.setIfInBounds_toArray, List.set_cons_zero, List.set_cons_succ]; rfl))))
  refine Sq.c_ #[.agg #[.int .i64 i, .int .i64 g]] Tryd.func37 (by kernel_rfl) rfl rfl rfl rfl (by rfl) rfl (by (try simp only [List.map_toArray, List.map_cons, List.map_nil]); first | done | rfl) ?_
  refine (C4.out _).mono ?_
  rintro e w5 ⟨rfl, hb⟩
  have HX' := Lib.hid (HX.out.below hb)
  have HB' := Lib.hid (HB.out.trans (hb.mono HB.out.size))
  clear hb HX HB
  have HX := HX'
  have HB := HB'
  clear HX' HB'
  refine ⟨_, ?_, rfl, ?_, ⟨HX.out.cell (j := 0) rfl, HX.out.cell (j := 1) rfl⟩, fun hHeld' => ?_⟩
  rotate_left 1
  (· (simp only [Act.put, List.setIfInBounds_toArray, List.set_cons_zero, List.set_cons_succ]; rfl))
  clear hHeld
  have hHeld := hHeld'
  clear hHeld'
  repeat (first | (refine Sq.q_ (v := ?_) (a' := ?_) rfl rfl rfl (by rfl) ?_ ?_ ?_; rotate_left 2; (· (rintro w' ⟨s0, s1⟩; go_simp; (first | with_reducible rfl | rw [if_neg (by omega)]))); (· (simp only [Act.put, List.setIfInBounds_toArray, List.set_cons_zero, List.set_cons_succ]; rfl))) | (refine Sq.o_ (a' := ?_) rfl rfl rfl (by rfl) ?_ ?_; rotate_left 1; (· (simp only [Act.put, List.setIfInBounds_toArray, List.set_cons_zero, List.set_cons_succ]; rfl))))
  refine Sq.e_ ?_
  go_wp2_with fail
  go_ret
  exact ⟨by simp, HB.out⟩
end Go.Proofs.YtddmlhcjbifkoaaDoor.Verb
/- What is shown, in plain words: both answers are one, what is shown is read again. No program. No conditions. -/
namespace Go.Proofs.YtddmlhcjbifkoaaDoor.Verb
open Go.Lib Go.RowKit Go.Proofs.YtddmlhcjbifkoaaDoor.Item
open Go.Proofs.YtddmlhcjbifkoaaDoor.Words (joinB splitS bad wordsOf)
abbrev E0 : ByteArray := ⟨#[]⟩
def giveF (s : SaidV) : Fld → ByteArray
  | .T => mk (itoa s.t)
  | .N => mk (itoa s.n)
  | .H => mk (handleTxt s.i s.g)
def wordsS (s : SaidV) (j : Nat) : List ByteArray := nameAt j :: (wantsF j).map (giveF s)
def filt (l : List ByteArray) : List ByteArray := l.filter (fun x => !decide (x = E0))
def showR (s : SaidV) : ByteArray × Bool :=
  if s.say < 0 ∨ 18 ≤ s.say then (E0, false) else if parseR (filt (wordsS s s.say.toNat)) = (s, 0) then (joinB (filt (wordsS s s.say.toNat)), true) else (E0, false)
def showRef (s : SaidV) : ByteArray × Bool :=
  if s.say < 0 ∨ 18 ≤ s.say then (E0, false) else if s.say = 0 then (E0, decide (s = zeroS)) else if parseR (wordsS s s.say.toNat) = (s, 0) then (joinB (wordsS s s.say.toNat), true) else (E0, false)
theorem mk_ne {l : List UInt8} (h : l ≠ []) : mk l ≠ E0 := fun e => h (by have := congrArg (fun b => b.data.toList) e; rw [mk_toList] at this; exact this)
theorem itoa_ne (n : Int) : itoa n ≠ [] := by
  unfold itoa
  split
  · simp
  · exact dec_ne _
theorem name_ne : ∀ j, j < 18 → 0 < j → nameAt j ≠ E0 := by
  have h : ∀ j, j < 18 → 0 < j → (nameAt j).data.toList ≠ [] := by decide +kernel
  exact fun j a b e => h j a b (by rw [e])
theorem filt_all {l : List ByteArray} (h : ∀ x ∈ l, x ≠ E0) : filt l = l := by
  unfold filt
  rw [List.filter_eq_self]
  intro x hx
  simp [h x hx]
theorem handleOf_nil : handleOf [] = none := by decide
theorem goP_empty (s0 : SaidV) : ∀ (fs : List Fld) (ws : List ByteArray), ws.length = fs.length → (∃ k : Nat, fs[k]? = some .H ∧ ws[k]? = some E0) → goP s0 fs ws = none
  | [], _, _, ⟨k, h, _⟩ => by simp at h
  | f :: fs, [], h, _ => by simp at h
  | f :: fs, w :: ws, hl, ⟨0, h1, h2⟩ => by
    simp at h1 h2
    subst h1; subst h2
    show (putF s0 .H E0).bind _ = none
    have : handleOf (E0 : ByteArray).data.toList = none := handleOf_nil
    unfold putF
    rw [this]; rfl
  | f :: fs, w :: ws, hl, ⟨k + 1, h1, h2⟩ => by
    show (putF s0 f w).bind _ = none
    cases putF s0 f w with
    | none => rfl
    | some s' => exact goP_empty s' fs ws (by simpa using hl) ⟨k, by simpa using h1, by simpa using h2⟩
theorem firstC_name {j n : Nat} (hj : j < 18) (h0 : 0 < j) : firstC (nameAt j) n 1 = if (wantsF j).length = n then some j else none := by
  cases h : findC (nameAt j) 0 with
  | none =>
    unfold findC at h
    have := List.find?_eq_none.1 h j (by rw [List.mem_range'_1]; omega)
    simp [h0] at this
  | some i =>
    obtain ⟨hi, hi0, hn, hf⟩ := firstC_of (n := n) h
    have := nameAt_inj i hi j hj hi0 h0 hn
    subst this
    exact hf
/-- Where a word is empty, neither shows anything. -/
theorem show_same (s : SaidV) : showRef s = showR s := by
  unfold showRef showR
  by_cases h : s.say < 0 ∨ 18 ≤ s.say
  · rw [if_pos h, if_pos h]
  · rw [if_neg h, if_neg h]
    have hj : s.say.toNat < 18 := by omega
    by_cases h0 : s.say = 0
    · rw [if_pos h0, h0]
      have e : wordsS s (0 : Int).toNat = [E0] := rfl
      have e2 : filt [E0] = [] := rfl
      rw [e, e2]
      have e3 : parseR [] = (zeroS, 0) := rfl
      rw [e3]
      by_cases hz : s = zeroS
      · rw [if_pos (by rw [hz])]; subst hz; rfl
      · rw [if_neg (fun e => hz (Prod.mk.inj e).1.symm), decide_eq_false hz]
    · rw [if_neg h0]
      have hj0 : 0 < s.say.toNat := by omega
      by_cases hall : ∀ x ∈ wordsS s s.say.toNat, x ≠ E0
      · rw [filt_all hall]
      · obtain ⟨x, hx⟩ := Classical.not_forall.1 hall
        obtain ⟨hx, hxe⟩ := Classical.not_imp.1 hx
        have hxe := Classical.not_not.1 hxe
        subst hxe
        unfold wordsS at hx
        rcases List.mem_cons.1 hx with hx | hx
        · exact absurd hx.symm (name_ne _ hj hj0)
        obtain ⟨f, hf, hfe⟩ := List.mem_map.1 hx
        have hH : f = .H := by
          cases f
          · exact absurd (show mk (itoa s.t) = E0 from hfe) (mk_ne (itoa_ne _))
          · exact absurd (show mk (itoa s.n) = E0 from hfe) (mk_ne (itoa_ne _))
          · rfl
        subst hH
        obtain ⟨k, hk⟩ := List.getElem?_of_mem hf
        have p1 : parseR (wordsS s s.say.toNat) = (zeroS, 31) := by
          show parseC (firstC (nameAt s.say.toNat) ((wantsF s.say.toNat).map (giveF s)).length 1) _ = _
          rw [firstC_name hj hj0, List.length_map, if_pos rfl]
          show outP (goP _ _ _) = _
          rw [goP_empty _ _ _ (by rw [List.length_map]) ⟨k, hk, by rw [List.getElem?_map, hk]; exact congrArg some hfe⟩]
          rfl
        have p2 : parseR (filt (wordsS s s.say.toNat)) = (zeroS, 31) := by
          have e : filt (wordsS s s.say.toNat) = nameAt s.say.toNat :: filt ((wantsF s.say.toNat).map (giveF s)) := by
            unfold filt wordsS
            rw [List.filter_cons, if_pos (by simp [name_ne _ hj hj0])]
          rw [e]
          show parseC (firstC (nameAt s.say.toNat) (filt ((wantsF s.say.toNat).map (giveF s))).length 1) _ = _
          rw [firstC_name hj hj0, if_neg ?_]
          · rfl
          intro e2
          have hlt : (filt ((wantsF s.say.toNat).map (giveF s))).length < ((wantsF s.say.toNat).map (giveF s)).length := by
            unfold filt
            refine Nat.lt_of_le_of_ne (List.length_filter_le _ _) (fun e3 => ?_)
            have := (List.length_filter_eq_length_iff.1 e3) E0 hx
            simp at this
          rw [List.length_map] at hlt
          omega
        rw [p1, p2, if_neg (fun e => by have := (Prod.mk.inj e).2; omega), if_neg (fun e => by have := (Prod.mk.inj e).2; omega)]
/-! ### What is shown is read again -/
/-- Words of one line. -/
structure Fine (ws : List ByteArray) : Prop where
  len : ws.length ≤ 3
  size : ∀ x ∈ ws, x.size ≤ 41
  word : ∀ x ∈ ws, x.data.toList ≠ [] ∧ ∀ c ∈ x.data.toList, 33 ≤ c.toNat ∧ c.toNat ≤ 126
theorem itoa_chars (n : Int) : ∀ c ∈ itoa n, 33 ≤ c.toNat ∧ c.toNat ≤ 126 := by
  intro c hc
  unfold itoa at hc
  split at hc
  · rcases List.mem_cons.1 hc with rfl | hc
    · decide
    · have := dec_digits _ c hc; omega
  · have := dec_digits _ c hc; omega
theorem name_chars : ∀ j, j < 18 → ∀ c ∈ (nameAt j).data.toList, 33 ≤ c.toNat ∧ c.toNat ≤ 126 := by decide +kernel
theorem name_size : ∀ j, j < 18 → (nameAt j).data.toList.length ≤ 6 := by decide +kernel
def In64S (s : SaidV) : Prop := In64 s.say ∧ In64 s.i ∧ In64 s.g ∧ In64 s.t ∧ In64 s.n
theorem give_fine {s : SaidV} (hs : In64S s) (f : Fld) : (giveF s f).size ≤ 41 ∧ ∀ c ∈ (giveF s f).data.toList, 33 ≤ c.toNat ∧ c.toNat ≤ 126 := by
  obtain ⟨_, h1, h2, h3, h4⟩ := hs
  cases f with
  | T => exact ⟨by show (mk (itoa s.t)).size ≤ 41; rw [mk_size]; have := itoa_len h3; omega, by show ∀ c ∈ (mk (itoa s.t)).data.toList, _; rw [mk_toList]; exact itoa_chars _⟩
  | N => exact ⟨by show (mk (itoa s.n)).size ≤ 41; rw [mk_size]; have := itoa_len h4; omega, by show ∀ c ∈ (mk (itoa s.n)).data.toList, _; rw [mk_toList]; exact itoa_chars _⟩
  | H =>
    have l1 := itoa_len h1
    have l2 := itoa_len h2
    refine ⟨?_, ?_⟩
    · show (mk (handleTxt s.i s.g)).size ≤ 41
      rw [mk_size]
      unfold handleTxt hText
      split
      · simp
      · rw [List.length_append, List.length_cons]; omega
    · show ∀ c ∈ (mk (handleTxt s.i s.g)).data.toList, _
      rw [mk_toList]
      unfold handleTxt hText
      split
      · intro c hc; cases hc
      · intro c hc
        rcases List.mem_append.1 hc with hc | hc
        · exact itoa_chars _ c hc
        · rcases List.mem_cons.1 hc with rfl | hc
          · decide
          · exact itoa_chars _ c hc
theorem words_fine {s : SaidV} (hs : In64S s) {j : Nat} (hj : j < 18) : Fine (filt (wordsS s j)) := by
  have hsub : ∀ x ∈ filt (wordsS s j), x ∈ wordsS s j ∧ x ≠ E0 := by
    intro x hx
    unfold filt at hx
    rw [List.mem_filter] at hx
    exact ⟨hx.1, by simpa using hx.2⟩
  have hw : ∀ x ∈ wordsS s j, x.size ≤ 41 ∧ ∀ c ∈ x.data.toList, 33 ≤ c.toNat ∧ c.toNat ≤ 126 := by
    intro x hx
    unfold wordsS at hx
    rcases List.mem_cons.1 hx with rfl | hx
    · exact ⟨by rw [← sz]; have := name_size j hj; omega, name_chars j hj⟩
    · obtain ⟨f, _, rfl⟩ := List.mem_map.1 hx
      exact give_fine hs f
  refine ⟨?_, fun x hx => (hw x (hsub x hx).1).1, fun x hx => ⟨fun e => (hsub x hx).2 ?_, (hw x (hsub x hx).1).2⟩⟩
  · have h1 : (filt (wordsS s j)).length ≤ (wordsS s j).length := List.length_filter_le _ _
    have h2 := few j hj
    have h3 : (wordsS s j).length = (wantsF j).length + 1 := by unfold wordsS; rw [List.length_cons, List.length_map]
    omega
  · have := Item.mk_data x
    rw [← this, e]; rfl
theorem sp_of {c : UInt8} (h : 33 ≤ c.toNat ∧ c.toNat ≤ 126) : isSp c = false ∧ bad c = false := by
  refine ⟨?_, ?_⟩
  · cases hs : isSp c with
    | false => rfl
    | true =>
      exfalso
      unfold isSp at hs
      simp only [Bool.or_eq_true, beq_iff_eq] at hs
      rcases hs with ((((hs | hs) | hs) | hs) | hs) | hs <;> (subst hs; revert h; decide)
  · unfold bad
    simp only [Bool.or_eq_false_iff, decide_eq_false_iff_not]
    omega
theorem goW (x : List UInt8) : ∀ (cur rest : List UInt8), (∀ c ∈ x, isSp c = false) → fieldsGo cur (x ++ rest) = fieldsGo (cur ++ x) rest := by
  induction x with
  | nil => intro cur rest _; simp
  | cons c x ih =>
    intro cur rest h
    have hc := h c (by simp)
    rw [List.cons_append, fieldsGo]
    simp only [hc, Bool.false_eq_true, if_false]
    rw [ih (cur ++ [c]) rest (fun d hd => h d (by simp [hd]))]
    simp
theorem fields_join : ∀ (r : List (List UInt8)) (x : List UInt8), (∀ y ∈ x :: r, y ≠ [] ∧ ∀ c ∈ y, isSp c = false) → fieldsGo [] (x ++ joinTail [32] r) = x :: r
  | [], x, h => by
    obtain ⟨h1, h2⟩ := h x (by simp)
    have e : joinTail [32] [] = [] := rfl
    rw [e, goW x _ _ h2, List.nil_append, fieldsGo]
    have : x.isEmpty = false := by cases x <;> simp_all
    simp [this]
  | y :: r, x, h => by
    obtain ⟨h1, h2⟩ := h x (by simp)
    have e : joinTail [32] (y :: r) = 32 :: (y ++ joinTail [32] r) := by simp [joinTail]
    have hs : isSp 32 = true := by decide
    have he : x.isEmpty = false := by cases x <;> simp_all
    rw [e, goW x _ _ h2, List.nil_append, fieldsGo, if_pos hs]
    simp only [he, Bool.false_eq_true, if_false]
    rw [fields_join r y (fun z hz => h z (List.mem_cons_of_mem _ hz))]
theorem tail_len : ∀ (r : List (List UInt8)), (∀ y ∈ r, y.length ≤ 41) → (joinTail [32] r).length ≤ 42 * r.length
  | [], _ => by simp [joinTail]
  | y :: r, h => by
    have e : joinTail [32] (y :: r) = 32 :: (y ++ joinTail [32] r) := by simp [joinTail]
    have h1 := h y (by simp)
    have h2 := tail_len r (fun z hz => h z (List.mem_cons_of_mem _ hz))
    rw [e, List.length_cons, List.length_append, List.length_cons]
    omega
theorem tail_mem : ∀ (r : List (List UInt8)) (c : UInt8), c ∈ joinTail [32] r → c = 32 ∨ ∃ y ∈ r, c ∈ y
  | [], c, h => by simp [joinTail] at h
  | y :: r, c, h => by
    have e : joinTail [32] (y :: r) = 32 :: (y ++ joinTail [32] r) := by simp [joinTail]
    rw [e] at h
    rcases List.mem_cons.1 h with h | h
    · exact Or.inl h
    · rcases List.mem_append.1 h with h | h
      · exact Or.inr ⟨y, by simp, h⟩
      · rcases tail_mem r c h with h | ⟨z, hz, h⟩
        · exact Or.inl h
        · exact Or.inr ⟨z, List.mem_cons_of_mem _ hz, h⟩
theorem joinB_data (ws : List ByteArray) : (joinB ws).data.toList = join (ws.map (·.data.toList)) [32] := by
  unfold joinB
  exact Words.mk_toList _
theorem remake : ∀ ws : List ByteArray, (ws.map (·.data.toList)).map (fun l => (⟨l.toArray⟩ : ByteArray)) = ws
  | [] => rfl
  | x :: r => by
    rw [List.map_cons, List.map_cons, remake r]
theorem split_join {ws : List ByteArray} (h : Fine ws) : splitS (joinB ws) = (ws, 0) := by
  have hd := joinB_data ws
  have hz : (joinB ws).size = (join (ws.map (·.data.toList)) [32]).length := by rw [← hd, sz]
  cases ws with
  | nil =>
    unfold splitS
    have e1 : (joinB []).size = 0 := by rw [hz]; rfl
    have e2 : (joinB []).data.toList = [] := by rw [hd]; rfl
    have e3 : wordsOf (joinB []) = [] := by unfold wordsOf; rw [e2]; rfl
    rw [if_neg (by omega), e2, if_neg (by simp), e3, if_neg (by simp)]
  | cons x r =>
    rw [List.map_cons, join_cons] at hd hz
    have hl : ∀ y ∈ x.data.toList :: r.map (·.data.toList), y ≠ [] ∧ (∀ c ∈ y, 33 ≤ c.toNat ∧ c.toNat ≤ 126) ∧ y.length ≤ 41 := by
      intro y hy
      rw [← List.map_cons (f := fun b : ByteArray => b.data.toList)] at hy
      obtain ⟨b, hb, rfl⟩ := List.mem_map.1 hy
      exact ⟨(h.word b hb).1, (h.word b hb).2, by rw [sz]; exact h.size b hb⟩
    have hn := h.len
    rw [List.length_cons] at hn
    have ht := tail_len (r.map (·.data.toList)) (fun y hy => (hl y (List.mem_cons_of_mem _ hy)).2.2)
    rw [List.length_map] at ht
    have hx := (hl _ (List.mem_cons_self)).2.2
    have e1 : ¬ 200 < (joinB (x :: r)).size := by rw [hz, List.length_append]; omega
    have e2 : ((joinB (x :: r)).data.toList.any bad) = false := by
      rw [hd, List.any_eq_false]
      intro c hc
      rcases List.mem_append.1 hc with hc | hc
      · rw [(sp_of ((hl _ List.mem_cons_self).2.1 c hc)).2]; simp
      · rcases tail_mem _ c hc with rfl | ⟨y, hy, hc⟩
        · decide
        · rw [(sp_of ((hl y (List.mem_cons_of_mem _ hy)).2.1 c hc)).2]; simp
    have e3 : wordsOf (joinB (x :: r)) = x :: r := by
      unfold wordsOf fields
      rw [hd, fields_join _ _ (fun y hy => ⟨(hl y hy).1, fun c hc => (sp_of ((hl y hy).2.1 c hc)).1⟩)]
      exact remake (x :: r)
    unfold splitS
    rw [if_neg e1, e2, if_neg (by simp), e3, if_neg (by rw [List.length_cons]; omega)]
/-- What is shown reads as what it was. -/
theorem show_back {s : SaidV} (hs : In64S s) {a : ByteArray} (h : showR s = (a, true)) : ∃ ws, a = joinB ws ∧ splitS a = (ws, 0) ∧ parseR ws = (s, 0) ∧ Fine ws := by
  unfold showR at h
  split at h
  · exact absurd (Prod.mk.inj h).2 (by simp)
  · rename_i hr
    split at h
    · rename_i hp
      have ha := (Prod.mk.inj h).1
      have hf := words_fine hs (j := s.say.toNat) (by omega)
      exact ⟨_, ha.symm, by rw [← ha]; exact split_join hf, hp, hf⟩
    · exact absurd (Prod.mk.inj h).2 (by simp)
theorem show_inj {s t : SaidV} (hs : In64S s) (ht : In64S t) {a : ByteArray} (h : showR s = (a, true)) (h' : showR t = (a, true)) : s = t := by
  obtain ⟨ws, _, h1, h2, _⟩ := show_back hs h
  obtain ⟨us, _, h3, h4, _⟩ := show_back ht h'
  rw [h1] at h3
  have := (Prod.mk.inj h3).1
  subst this
  rw [h2] at h4
  exact (Prod.mk.inj h4).1
end Go.Proofs.YtddmlhcjbifkoaaDoor.Verb
/- The words of what is said, empty ones struck. No conditions. -/
namespace Go.Proofs.YtddmlhcjbifkoaaDoor.Verb
open Go.Lib Go.RowKit Go.Shelf Go.Sort Go.Proofs.YtddmlhcjbifkoaaDoor.Mem Go.Proofs.YtddmlhcjbifkoaaDoorW.PrintWords Go.Proofs.YtddmlhcjbifkoaaDoor.Item
set_option maxRecDepth 100000 in
set_option maxHeartbeats 1000000 in
theorem give_t (s : SaidV) (w : World) (hs : In64S s) (he : Env w) : Calls Tryd.prog 61 #[.agg (cellsS s), .int .u8 116] w fun e w' => e = .returned (.string (giveF s .T)) ∧ Below w.heap.size w w' := by
  have hu52 := Tryd.underlying52
  have HB : Hid (Below w.heap.size w (w.alloc (Obj.cells (cellsS s) 52))) := Lib.hid ((Below.refl _ _).alloc (Nat.le_refl _) _)
  have C := Lib.hid (number_ s.t (w.alloc (Obj.cells (cellsS s) 52)) hs.2.2.2.1 (he.step HB.out))
  have E : Hid (mk (itoa s.t) = giveF s .T) := Lib.hid rfl
  generalize mk (itoa s.t) = tt at *
  clear hs he
  go_enter Tryd.func61, Tryd.ntmps61
  go_wp2_with fail
  refine C.out.mono ?_
  rintro e w1 ⟨rfl, hb⟩
  have HB1 := Lib.hid (HB.out.trans (hb.mono HB.out.size))
  clear hb C HB
  go_wp2_with fail
  go_ret
  exact ⟨by rw [← E.out]; rfl, HB1.out⟩
set_option maxRecDepth 100000 in
set_option maxHeartbeats 1000000 in
theorem give_n (s : SaidV) (w : World) (hs : In64S s) (he : Env w) : Calls Tryd.prog 61 #[.agg (cellsS s), .int .u8 110] w fun e w' => e = .returned (.string (giveF s .N)) ∧ Below w.heap.size w w' := by
  have hu52 := Tryd.underlying52
  have HB : Hid (Below w.heap.size w (w.alloc (Obj.cells (cellsS s) 52))) := Lib.hid ((Below.refl _ _).alloc (Nat.le_refl _) _)
  have C := Lib.hid (number_ s.n (w.alloc (Obj.cells (cellsS s) 52)) hs.2.2.2.2 (he.step HB.out))
  have E : Hid (mk (itoa s.n) = giveF s .N) := Lib.hid rfl
  generalize mk (itoa s.n) = tt at *
  clear hs he
  go_enter Tryd.func61, Tryd.ntmps61
  go_wp2_with fail
  refine C.out.mono ?_
  rintro e w1 ⟨rfl, hb⟩
  have HB1 := Lib.hid (HB.out.trans (hb.mono HB.out.size))
  clear hb C HB
  go_wp2_with fail
  go_ret
  exact ⟨by rw [← E.out]; rfl, HB1.out⟩
set_option maxRecDepth 100000 in
set_option maxHeartbeats 1000000 in
theorem give_h (s : SaidV) (w : World) (hs : In64S s) (he : Env w) : Calls Tryd.prog 61 #[.agg (cellsS s), .int .u8 104] w fun e w' => e = .returned (.string (giveF s .H)) ∧ Below w.heap.size w w' := by
  have hu52 := Tryd.underlying52
  have hu50 := Tryd.underlying50
  have HB : Hid (Below w.heap.size w (w.alloc (Obj.cells (cellsS s) 52))) := Lib.hid ((Below.refl _ _).alloc (Nat.le_refl _) _)
  have C := Lib.hid (handle_ s.i s.g (w.alloc (Obj.cells (cellsS s) 52)) hs.2.1 hs.2.2.1 (he.step HB.out))
  have E : Hid (mk (handleTxt s.i s.g) = giveF s .H) := Lib.hid rfl
  generalize mk (handleTxt s.i s.g) = tt at *
  clear hs he
  go_enter Tryd.func61, Tryd.ntmps61
  go_wp2_with fail
  refine C.out.mono ?_
  rintro e w1 ⟨rfl, hb⟩
  have HB1 := Lib.hid (HB.out.trans (hb.mono HB.out.size))
  clear hb C HB
  go_wp2_with fail
  go_ret
  exact ⟨by rw [← E.out]; rfl, HB1.out⟩
set_option maxRecDepth 100000 in
theorem empty_ (x : ByteArray) (w : World) : Calls Tryd.prog 63 #[.string x] w fun e w' => e = .returned (.bool (decide (x = E0))) ∧ w' = w := by
  have HR : Hid (x.toList.isEmpty = decide (x = E0)) := Lib.hid (by
    by_cases h : x = E0
    · subst h
      rw [show (E0 : ByteArray).toList = [] by rw [ByteArray.toList_eq]]
      rfl
    · rw [decide_eq_false h]
      cases hx : x.toList with
      | nil => exact absurd (toList_inj.1 (hx.trans (show ([] : List UInt8) = E0.toList by rw [ByteArray.toList_eq]))) h
      | cons c l => rfl)
  go_enter Tryd.func63, Tryd.ntmps63
  go_wp2_with fail
  go_ret
  exact ⟨by rw [← HR.out]; rfl, rfl⟩
/-- The struck row. -/
theorem delete_ (g c : Nat) (l : List ByteArray) (w : World) {cur : Array Value} (h : w.heap[g]? = some (.cells cur 9 (0, 0))) (hcell : ∀ (i : Nat) (x : ByteArray), l[i]? = some x → w.cell? ⟨g, i, none⟩ = some (.string x)) (hl : l.length ≤ 1000000) (hc : l.length ≤ c) :
    Calls Tryd.prog 62 #[.slice (some ⟨g, 0, none⟩) l.length c, .func (.func 63) #[] #[]] w fun e w' => e = .returned (.slice (some ⟨g, 0, none⟩) (filt l).length c) ∧ Kd.C Kd.string w' (some ⟨g, 0, none⟩) (filt l).length (filt l) ∧ Chg (fun k => k = g) w w' := by
  have hp : ∀ W (x : ByteArray), FnGives Tryd.prog 63 #[] #[Value.string x] (.bool (decide (x = E0))) W := fun W x => by
    refine (show Calls Tryd.prog 63 (#[Value.string x] ++ #[]) W _ from ?_)
    exact (empty_ x W).mono fun e w' ⟨a, b⟩ => ⟨a, 0, b⟩
  have hH : Holds Value.string w g 0 l.toArray := fun j hj => by
    have hj' : j < l.length := by simpa using hj
    have e : l.toArray[j]! = l[j] := by rw [getElem!_pos l.toArray j hj]; simp
    rw [e, Nat.zero_add]
    refine ⟨?_, ?_⟩
    · exact hcell j _ (List.getElem?_eq_getElem hj')
    · simp [World.frozen?, h]
  have := AnyE.slices_DeleteFunc Tryd.lDel Value.string (fun _ => rfl) (fun x => decide (x = E0)) 63 #[] (enters_of Tryd.func63 (by kernel_rfl) rfl) E0 Tryd.zeroValue9 g 0 c l.toArray w (fun W x _ => hp W x) (fun n os dk x _ => hp _ x) hH (by simp; omega) (by simpa using hc)
  have e0 : l.toArray.size = l.length := by simp
  have e1 : (l.toArray.toList.filter fun x => !decide (x = E0)) = filt l := rfl
  rw [e1, e0] at this
  refine this.mono ?_
  rintro e w' ⟨rfl, q, rfl⟩
  have hle : (filt l).length ≤ l.length := List.length_filter_le _ _
  have hds : (filt l ++ List.replicate (l.length - (filt l).length) E0).toArray.size = l.toArray.size := by simp; omega
  refine ⟨rfl, ⟨rfl, by omega, fun _ => ⟨⟨g, 0, none⟩, rfl, fun j p hj => ⟨[.string p], rfl, rfl, fun i u hu => ?_⟩⟩⟩, ⟨rfl, rfl, rfl, ?_, fun k hk hne => ?_⟩⟩
  · have hjl := (List.getElem?_eq_some_iff.1 hj).1
    cases i with
    | succ i => simp at hu
    | zero =>
      simp only [List.getElem?_cons_zero, Option.some.injEq] at hu
      subst hu
      have ea : (⟨g, 0, none⟩ : Addr).add (j * Kd.string.sz + 0) = ⟨g, 0 + j, none⟩ := by
        show (⟨g, 0, none⟩ : Addr).add (j * 1 + 0) = _
        rw [Addr.add_lit]; simp
      rw [ea, cell?_putRow Value.string (Sort.ahead w q) g 0 l.toArray _ hH hds j (by simp; omega)]
      have hj3 : j < (filt l ++ List.replicate (l.length - (filt l).length) E0).toArray.size := by simp; omega
      rw [getElem!_pos _ j hj3]
      have := (List.getElem?_eq_some_iff.1 hj).2
      simp only [List.getElem_toArray]
      rw [List.getElem_append_left hjl, this]
  · show w.heap.size ≤ (putRow Value.string (Sort.ahead w q) g 0 _).heap.size
    simp [putRow, mapBlock, Sort.ahead]
  · show (putRow Value.string (Sort.ahead w q) g 0 _).heap[k]? = w.heap[k]?
    simp only [putRow, mapBlock, Sort.ahead, Array.getElem?_modify]
    rw [if_neg (fun e => hne e.symm)]
end Go.Proofs.YtddmlhcjbifkoaaDoor.Verb
/- What is shown, by the program. No conditions. -/
namespace Go.Proofs.YtddmlhcjbifkoaaDoor.Sq
open Go.RowKit Go.Proofs.YtddmlhcjbifkoaaDoorW.PrintLast
/-- Any other operation, by a step of one's own. -/
theorem k_ {P : Program} {ops : Array Oper} {Q : Exit → Act → World → Prop} {S : World → Prop} {cs : List Nat} {i : Nat} {is : List (Nat × Option Tmp)} {o : Oper} {N : Option Tmp} {a : Act} {w : World} (hc : cs.contains i = true) (ho : ops[i]? = some o) (hN : o.dst = N)
    (h : ∀ K : Act → World → Prop, (∀ a' w', S w' → (S w' → Walk P ops Q S cs is a' w') → K a' w') → if Region.wanted o (yielded ops a.tmps) = true then Oper.wp P o a w K Q else K (a.put N undef) w) : Walk P ops Q S cs ((i, N) :: is) a w :=
  Or.inl ⟨hc, o, ho, hN, h⟩
theorem norm_ {P : Program} {ops : Array Oper} {Q : Exit → Act → World → Prop} {S : World → Prop} {cs : List Nat} {is : List (Nat × Option Tmp)} {a a' : Act} {w : World} (ha : a = a') (h : Walk P ops Q S cs is a' w) : Walk P ops Q S cs is a w := by
  subst ha
  exact h
end Go.Proofs.YtddmlhcjbifkoaaDoor.Sq
namespace Go.Proofs.YtddmlhcjbifkoaaDoor.Verb
open Go.Lib Go.RowKit Go.Shelf Go.Proofs.YtddmlhcjbifkoaaDoor.Mem Go.Proofs.YtddmlhcjbifkoaaDoorW.PrintWords Go.Proofs.YtddmlhcjbifkoaaDoor.Item Go.Proofs.YtddmlhcjbifkoaaDoor.PVerbShows
open Go.Proofs.YtddmlhcjbifkoaaDoor.Words (joinB)
theorem lit_R {W : World} {base : Nat} {ok : Nat → Prop} (x : ByteArray) (hfresh : ok W.heap.size) (hbase : base ≤ W.heap.size) : Kd.R Kd.string 9 (W.alloc (.cells #[.string x] 9)) base ok (.slice (some ⟨W.heap.size, 0, none⟩) 1 1) [x] := by
  refine ⟨fun k hk => ?_, [.string x], ?_, Kd.reps_scalar (enc := Value.string) [x]⟩
  · have : W.heap.size = k := by simpa [Value.ownBlock] using hk
    subst this
    exact hfresh
  · have h2 := World.ownsRow_lit (base := base) (e := 9) (size := 1) W #[.string x] 1 hbase (by decide) (by simp)
    have h3 : (W.alloc (.cells #[.string x] 9)).ownsRow base 9 1 (.slice (some ⟨W.heap.size, 0, none⟩) 1 1) 1 [.string x] := by simpa using h2
    exact h3
/-- A row of one's own, one at least: its block, its cells. -/
theorem row_open {W : World} {base : Nat} {ok : Nat → Prop} {v : Value} {x : ByteArray} {r : List ByteArray} (h : Kd.R Kd.string 9 W base ok v (x :: r)) :
    ∃ g c cur, v = .slice (some ⟨g, 0, none⟩) (x :: r).length c ∧ (x :: r).length ≤ c ∧ W.heap[g]? = some (.cells cur 9 (0, 0)) ∧ ok g ∧ base ≤ g ∧ (∀ (i : Nat) (y : ByteArray), (x :: r)[i]? = some y → W.cell? ⟨g, i, none⟩ = some (.string y)) := by
  obtain ⟨h0, inner, hown, hr⟩ := h
  have h00 := h0
  rcases hown.2 with ⟨rfl, hn⟩ | ⟨g, cap, cur, rfl, hg, hh, rr⟩
  · simp at hn
  · have hC := Kd.R_reads' ⟨h0, inner, ⟨hown.1, .inr ⟨g, cap, cur, rfl, hg, hh, rr⟩⟩, hr⟩
    refine ⟨g, cap, cur, rfl, hC.2.1, hh, h00 g (by simp [Value.ownBlock]), hg, fun i y hy => ?_⟩
    obtain ⟨ad, hA, hc⟩ := cell_str hC.2.2 hy
    injection hA with hA
    subst hA
    rwa [Addr.add_lit, Nat.zero_add] at hc
theorem join_ (g c : Nat) (l : List ByteArray) (w : World) (hC : Kd.C Kd.string w (some ⟨g, 0, none⟩) l.length l) (hg : g < w.heap.size) (hc : l.length ≤ c) (hl : l.length ≤ 1000000) (hz : (joinB l).size ≤ 1000000) :
    Calls Tryd.prog 48 #[.slice (some ⟨g, 0, none⟩) l.length c, .string ⟨#[32]⟩] w fun e w' => e = .returned (.string (joinB l)) ∧ Below w.heap.size w w' := by
  cases l with
  | nil => exact (Tryd.strings_Join_none _ c _ w).mono fun e w' ⟨a, b⟩ => ⟨a, by subst b; exact Below.refl _ _⟩
  | cons x r =>
    have := Tryd.strings_Join g 0 c (x :: r) ⟨#[32]⟩ w (fun i y hy => by
      obtain ⟨ad, hA, hc'⟩ := cell_str hC hy
      injection hA with hA
      subst hA
      rwa [Addr.add_lit] at hc') hg (by omega) hc (by
        have e : (joinB (x :: r)).size = (Lib.join ((x :: r).map (·.data.toList)) [32]).length := by rw [← joinB_data, sz]
        rw [← show (⟨#[32]⟩ : ByteArray).data.toList = [32] from rfl] at e
        omega)
    refine this.mono ?_
    rintro e w' ⟨rfl, hb⟩
    exact ⟨rfl, hb⟩
attribute [local go_sem high] eqA52
set_option maxRecDepth 100000 in
set_option maxHeartbeats 1000000 in
theorem show_out (s : SaidV) (w : World) (hr : s.say < 0 ∨ 18 ≤ s.say) : Calls Tryd.prog 38 #[.agg (cellsS s)] w fun e w' => e = .returned (.tuple #[.string (showR s).1, .bool (showR s).2]) ∧ Below w.heap.size w w' := by
  have hu52 := Tryd.underlying52
  have HR : Hid (showR s = (E0, false)) := Lib.hid (by unfold showR; rw [if_pos hr])
  have HB : Hid (Below w.heap.size w (w.alloc (Obj.cells (cellsS s) 52))) := Lib.hid ((Below.refl _ _).alloc (Nat.le_refl _) _)
  by_cases h : s.say < 0
  · have t0 : decide (s.say < 0) = true := decide_eq_true h
    clear hr
    go_enter Tryd.func38, Tryd.ntmps38
    go_wp2_with fail
    go_ret2
    exact ⟨by rw [HR.out]; rfl, HB.out⟩
  · have t0 : decide (s.say < 0) = false := decide_eq_false h
    have t1 : decide (18 ≤ s.say) = true := decide_eq_true (by omega)
    clear hr
    go_enter Tryd.func38, Tryd.ntmps38
    go_wp2_with fail
    go_ret2
    exact ⟨by rw [HR.out]; rfl, HB.out⟩
set_option maxRecDepth 100000 in
set_option maxHeartbeats 4000000 in
theorem show_in (s : SaidV) (w : World) (hs : In64S s) (hT : Tbl w) (he : Env w) (hr : ¬ (s.say < 0 ∨ 18 ≤ s.say)) : Calls Tryd.prog 38 #[.agg (cellsS s)] w fun e w' => e = .returned (.tuple #[.string (showR s).1, .bool (showR s).2]) ∧ Below w.heap.size w w' := by
  have hu52 := Tryd.underlying52
  have hu50 := Tryd.underlying50
  have hu84 := Tryd.underlying84
  have hu85 := Tryd.underlying85
  obtain ⟨say, si, sg, st, sn⟩ := s
  obtain ⟨j, hj⟩ : ∃ j : Nat, say = j := ⟨say.toNat, by simp only at hr; omega⟩
  subst hj
  obtain ⟨s, hsd⟩ : ∃ s : SaidV, s = ⟨j, si, sg, st, sn⟩ := ⟨_, rfl⟩
  rw [← hsd] at hs hr ⊢
  have hj : s.say = j := by rw [hsd]
  have hj18 : j < 18 := by omega
  have hcs : cellsS s = #[Value.int .i64 j, .int .i64 si, .int .i64 sg, .int .i64 st, .int .i64 sn] := by rw [hsd]
  have HSd := Lib.hid hsd
  have HR : Hid (showR s = if parseR (filt (wordsS s j)) = (s, 0) then (joinB (filt (wordsS s j)), true) else (E0, false)) := Lib.hid (by unfold showR; rw [if_neg hr, hj, Int.toNat_natCast])
  have HFine := Lib.hid (words_fine hs hj18)
  obtain ⟨L, hL⟩ : ∃ L, L = lowAt j := ⟨_, rfl⟩
  obtain ⟨m, hm⟩ : ∃ m, m = (wantsF j).length := ⟨_, rfl⟩
  have hLs : L.size = m := by rw [hL, hm, ← low_is j hj18, List.length_map, sz]
  have hm2 : m ≤ 2 := by rw [hm]; exact few j hj18
  have HW : Hid (∀ w', Below w.heap.size w w' → w'.cell? ⟨0, j * 2 + 1, none⟩ = some (.string L)) := Lib.hid (fun w' hb => by rw [hL, Nat.mul_comm j 2]; exact (hT.step hb).wants hj18)
  have HNm : Hid (∀ w', Below w.heap.size w w' → w'.cell? ⟨0, j * 2, none⟩ = some (.string (nameAt j))) := Lib.hid (fun w' hb => by rw [Nat.mul_comm j 2]; exact (hT.step hb).name hj18)
  have HLc : Hid (∀ (k : Nat), k < m → ∃ cc, L.data.toList[k]? = some cc ∧ (cc = 116 ∨ cc = 110 ∨ cc = 104) ∧ (wantsF j)[k]? = some (lowF cc)) := Lib.hid (fun k hk => by
    have hk' : k < (lowAt j).data.toList.length := by rw [← hL, sz]; omega
    refine ⟨(lowAt j).data.toList[k], by rw [hL]; exact List.getElem?_eq_getElem hk', low_chars j hj18 _ (List.getElem_mem hk'), ?_⟩
    rw [← low_is j hj18, List.getElem?_map, List.getElem?_eq_getElem hk']
    rfl)
  have HE := Lib.hid he
  have HT := Lib.hid hT
  have HSs := Lib.hid hs
  have HM := Lib.hid hm
  have t0 : decide ((j : Int) < 0) = false := decide_eq_false (by omega)
  have t1 : decide (18 ≤ (j : Int)) = false := decide_eq_false (by omega)
  have j0 : (0 : Int) ≤ j := by omega
  have j1 : (j : Int) < 18 := by omega
  have j2 : ((j : Int)).toNat = j := by omega
  rw [hcs]
  have HA : Hid (Below w.heap.size w (w.alloc (Obj.cells #[Value.int .i64 j, .int .i64 si, .int .i64 sg, .int .i64 st, .int .i64 sn] 52))) := Lib.hid ((Below.refl _ _).alloc (Nat.le_refl _) _)
  have HX : Hid (Blk (w.alloc (Obj.cells #[Value.int .i64 j, .int .i64 si, .int .i64 sg, .int .i64 st, .int .i64 sn] 52)) w.heap.size #[Value.int .i64 j, .int .i64 si, .int .i64 sg, .int .i64 st, .int .i64 sn] 52) := Lib.hid (Blk.new _ _ _)
  have c0 : (w.alloc (Obj.cells #[Value.int .i64 j, .int .i64 si, .int .i64 sg, .int .i64 st, .int .i64 sn] 52)).cell? ⟨w.heap.size, 0, none⟩ = some (.int .i64 j) := HX.out.cell (j := 0) rfl
  have cn := HNm.out _ HA.out
  have cw := HW.out _ HA.out
  have HB : Hid (Below w.heap.size w ((w.alloc (Obj.cells #[Value.int .i64 j, .int .i64 si, .int .i64 sg, .int .i64 st, .int .i64 sn] 52)).alloc (Obj.cells #[.string (nameAt j)] 9))) := Lib.hid (HA.out.alloc HA.out.size _)
  have HX1 : Hid (Blk ((w.alloc (Obj.cells #[Value.int .i64 j, .int .i64 si, .int .i64 sg, .int .i64 st, .int .i64 sn] 52)).alloc (Obj.cells #[.string (nameAt j)] 9)) w.heap.size #[Value.int .i64 j, .int .i64 si, .int .i64 sg, .int .i64 st, .int .i64 sn] 52) := Lib.hid (HX.out.alloc _)
  have c0' : ((w.alloc (Obj.cells #[Value.int .i64 j, .int .i64 si, .int .i64 sg, .int .i64 st, .int .i64 sn] 52)).alloc (Obj.cells #[.string (nameAt j)] 9)).cell? ⟨w.heap.size, 0, none⟩ = some (.int .i64 j) := HX1.out.cell (j := 0) rfl
  have cw' := HW.out _ HB.out
  have HRow : Hid (Kd.R Kd.string 9 ((w.alloc (Obj.cells #[Value.int .i64 j, .int .i64 si, .int .i64 sg, .int .i64 st, .int .i64 sn] 52)).alloc (Obj.cells #[.string (nameAt j)] 9)) w.heap.size (fun k => w.heap.size < k) (.slice (some ⟨w.heap.size + 1, 0, none⟩) 1 1) [nameAt j]) := Lib.hid (by
    have := lit_R (W := w.alloc (Obj.cells #[Value.int .i64 j, .int .i64 si, .int .i64 sg, .int .i64 st, .int .i64 sn] 52)) (base := w.heap.size) (ok := fun k => w.heap.size < k) (nameAt j) (by simp) (by simp)
    simpa using this)
  obtain ⟨nm, hnm⟩ : ∃ nm, nm = nameAt j := ⟨_, rfl⟩
  rw [← hnm] at HNm cn HB HX1 c0' cw' HRow
  have HNe := Lib.hid hnm
  clear hnm
  clear hr hs hT he hm hL hj hcs hsd
  go_enter Tryd.func38, Tryd.ntmps38
  go_wp2_with fail
  generalize (w.alloc (Obj.cells #[Value.int .i64 j, .int .i64 si, .int .i64 sg, .int .i64 st, .int .i64 sn] 52)).alloc (Obj.cells #[.string nm] 9) = w0 at *
  clear c0 cn cw c0' cw' HA HX
  go_loopw [4, 28] (fun v i wr => ∃ k : Nat, k ≤ m ∧ i = .int .i64 k ∧ Kd.R Kd.string 9 wr w.heap.size (fun k => w.heap.size < k) v (nm :: ((wantsF j).take k).map (giveF s)) ∧ Blk wr w.heap.size #[Value.int .i64 j, .int .i64 si, .int .i64 sg, .int .i64 st, .int .i64 sn] 52 ∧ Below w.heap.size w wr) (fun _ i _ => m - (intOf i).toNat)
  case atStart => exact ⟨0, Nat.zero_le _, rfl, HRow.out, HX1.out, HB.out⟩
  case round =>
    clear HRow HX1 HB
    obtain ⟨k, hk, rfl, hrow, hx, hb⟩ := hrel
    by_cases hlt : k < m
    · obtain ⟨cc, hcc, hch, hfc⟩ := HLc.out k hlt
      have hlk : k < L.size := by omega
      have hLk : L[k] = cc := by
        have e : L.data.toList[k]? = some L[k] := by
          rw [List.getElem?_eq_getElem (by rw [sz]; exact hlk)]
          rfl
        rw [e] at hcc
        injection hcc
      have HFc := Lib.hid hfc
      have HRow : Hid (Kd.R Kd.string 9 wr.drew w.heap.size (fun k => w.heap.size < k) _ (nm :: ((wantsF j).take k).map (giveF s))) := Lib.hid (Kd.R_step hrow (fun _ _ _ => rfl))
      have HX : Hid (Blk wr.drew w.heap.size #[Value.int .i64 j, .int .i64 si, .int .i64 sg, .int .i64 st, .int .i64 sn] 52) := Lib.hid hx.drew
      have HB : Hid (Below w.heap.size w wr.drew) := Lib.hid hb.drew
      have TK : Hid (∀ w1, Below w.heap.size w w1 → Calls Tryd.prog 61 #[.agg #[Value.int .i64 j, .int .i64 si, .int .i64 sg, .int .i64 st, .int .i64 sn], .int .u8 (L[k].toNat : Int)] w1 fun e w' => e = .returned (.string (giveF s (lowF cc))) ∧ Below w1.heap.size w1 w') := Lib.hid (fun w1 hb => by
        have ec : cellsS s = #[Value.int .i64 j, .int .i64 si, .int .i64 sg, .int .i64 st, .int .i64 sn] := by rw [HSd.out]
        rw [← ec, hLk]
        rcases hch with rfl | rfl | rfl
        · exact give_t s w1 HSs.out (HE.out.step hb)
        · exact give_n s w1 HSs.out (HE.out.step hb)
        · exact give_h s w1 HSs.out (HE.out.step hb))
      obtain ⟨gw, hgw⟩ : ∃ gw, gw = giveF s (lowF cc) := ⟨_, rfl⟩
      rw [← hgw] at TK
      have HGw := Lib.hid hgw
      have k0 : (0 : Int) ≤ k := by omega
      have k1 : (k : Int) < m := by omega
      have k2 : ((k : Int)).toNat = k := by omega
      have k3 : (k : Int) < L.size := by omega
      have x0 : wr.cell? ⟨w.heap.size, 0, none⟩ = some (.int .i64 j) := hx.cell (j := 0) rfl
      clear hcc hch hfc hLk hrow hx hb hgw
      go_wp2_with fail
      refine Sq.region_ (fun w' => w'.cell? ⟨w.heap.size, 0, none⟩ = some (.int .i64 j) ∧ w'.cell? ⟨w.heap.size, 1, none⟩ = some (.int .i64 si) ∧ w'.cell? ⟨w.heap.size, 2, none⟩ = some (.int .i64 sg) ∧ w'.cell? ⟨w.heap.size, 3, none⟩ = some (.int .i64 st) ∧ w'.cell? ⟨w.heap.size, 4, none⟩ = some (.int .i64 sn) ∧ w'.cell? ⟨0, j * 2 + 1, none⟩ = some (.string L)) [9, 10, 11] [(0, some 31), (1, some 32), (2, some 33), (3, some 34), (4, some 35), (5, some 36), (6, some 37), (7, some 38), (8, some 39), (9, some 40), (10, some 41), (11, some 42), (12, some 4)] (by kernel_rfl) rfl (by kernel_rfl) (fun _ _ N _ _ h => by cases N <;> exact h) ⟨HX.out.cell (j := 0) rfl, HX.out.cell (j := 1) rfl, HX.out.cell (j := 2) rfl, HX.out.cell (j := 3) rfl, HX.out.cell (j := 4) rfl, HW.out _ HB.out⟩ (fun hHeld => ?_)
      generalize wr.drew = wd at *
      repeat (first | (refine Sq.q_ (v := ?_) (a' := ?_) rfl rfl rfl (by rfl) ?_ ?_ ?_; rotate_left 2; (· (rintro w' ⟨s0, s1, s2, s3, s4, s5⟩; go_simp; (first | with_reducible rfl | rw [if_neg (by omega)]))); (· (simp only [Act.put, List.setIfInBounds_toArray, List.set_cons_zero, List.set_cons_succ]; rfl))) | (refine Sq.o_ (a' := ?_) rfl rfl rfl (by rfl) ?_ ?_; rotate_left 1; (· (simp only [Act.put, List.setIfInBounds_toArray, List.set_cons_zero, List.set_cons_succ]; rfl))))
      refine Sq.c_ #[.agg #[Value.int .i64 j, .int .i64 si, .int .i64 sg, .int .i64 st, .int .i64 sn], .int .u8 (L[k].toNat : Int)] Tryd.func61 (by kernel_rfl) rfl rfl rfl rfl (by rfl) rfl (by (try simp only [List.map_toArray, List.map_cons, List.map_nil]); first | done | rfl) ?_
      refine (TK.out _ HB.out).mono ?_
      rintro e w5 ⟨rfl, hb⟩
      have HX' := Lib.hid (HX.out.below hb)
      have HB' := Lib.hid (HB.out.trans (hb.mono HB.out.size))
      have HRow' := Lib.hid (Kd.R_step HRow.out (fun k _ hl => hb.block k hl))
      clear hb HX HB HRow
      have HX := HX'
      have HB := HB'
      have HRow := HRow'
      clear HX' HB' HRow'
      refine ⟨_, ?_, rfl, ?_, ⟨HX.out.cell (j := 0) rfl, HX.out.cell (j := 1) rfl, HX.out.cell (j := 2) rfl, HX.out.cell (j := 3) rfl, HX.out.cell (j := 4) rfl, HW.out _ HB.out⟩, fun hHeld' => ?_⟩
      rotate_left 1
      (· (simp only [Act.put, List.setIfInBounds_toArray, List.set_cons_zero, List.set_cons_succ]; rfl))
      clear hHeld
      have hHeld := hHeld'
      clear hHeld'
      repeat (first | (refine Sq.q_ (v := ?_) (a' := ?_) rfl rfl rfl (by rfl) ?_ ?_ ?_; rotate_left 2; (· (rintro w' ⟨s0, s1, s2, s3, s4, s5⟩; go_simp; (first | with_reducible rfl | rw [if_neg (by omega)]))); (· (simp only [Act.put, List.setIfInBounds_toArray, List.set_cons_zero, List.set_cons_succ]; rfl))) | (refine Sq.o_ (a' := ?_) rfl rfl rfl (by rfl) ?_ ?_; rotate_left 1; (· (simp only [Act.put, List.setIfInBounds_toArray, List.set_cons_zero, List.set_cons_succ]; rfl))))
      refine Sq.v_ (v := .slice (some ⟨w5.heap.size, 0, none⟩) 1 1) (w1 := w5.alloc (Obj.cells #[.string gw] 9)) (a' := ?_) rfl rfl rfl (by rfl) (by go_simp; try rfl) ?_ ⟨(HX.out.alloc _).cell (j := 0) rfl, (HX.out.alloc _).cell (j := 1) rfl, (HX.out.alloc _).cell (j := 2) rfl, (HX.out.alloc _).cell (j := 3) rfl, (HX.out.alloc _).cell (j := 4) rfl, HW.out _ (HB.out.alloc HB.out.size _)⟩ (fun hH2 => ?_)
      rotate_left 1
      (· (simp only [Act.put, List.setIfInBounds_toArray, List.set_cons_zero, List.set_cons_succ]; rfl))
      clear hHeld
      refine Sq.k_ rfl rfl rfl (fun K hK => ?_)
      refine Kd.R_append_step Kd.string (w0 := w) (W := w5) w.heap.size (by rfl) (.tmp 31) (.tmp 41) 23 9 (.string E0) 16 rfl Tryd.underlying23 (by kernel_rfl) rfl (by decide) (by decide) _ _ gw [.string gw] (fun k => w.heap.size < k) (fun _ => False) rfl rfl rfl (fun k h => h.elim) (fun k hk => Nat.lt_of_lt_of_le HX.out.lt hk) HRow.out HB.out HB.out.size (by rw [List.length_cons, List.length_map, List.length_take]; omega) ?_
      intro v1 w7 hR7 hb7 hg7 hat7
      have HX7 : Hid (Blk w7 w.heap.size #[Value.int .i64 j, .int .i64 si, .int .i64 sg, .int .i64 st, .int .i64 sn] 52) := Lib.hid ((hg7.block _ HX.out.lt (fun e => by have := HRow.out.1 _ e.symm; omega)).trans HX.out)
      have HB7 := Lib.hid hb7
      have HR7 : Hid (Kd.R Kd.string 9 w7 w.heap.size (fun k => w.heap.size < k) v1 (nm :: ((wantsF j).take (k + 1)).map (giveF s))) := Lib.hid (by
        rw [List.take_add_one, HFc.out, List.map_append, ← List.cons_append]
        rw [HGw.out] at hR7
        exact hR7)
      clear hR7 hb7 hg7 hat7
      refine hK _ _ ⟨HX7.out.cell (j := 0) rfl, HX7.out.cell (j := 1) rfl, HX7.out.cell (j := 2) rfl, HX7.out.cell (j := 3) rfl, HX7.out.cell (j := 4) rfl, HW.out _ HB7.out⟩ (fun hHeld => ?_)
      clear hK K
      refine Sq.norm_ (a' := ?_) ?_ ?_
      rotate_left 1
      · show Act.put _ (some 42) _ = _
        simp only [Act.put, List.setIfInBounds_toArray, List.set_cons_zero, List.set_cons_succ]; rfl
      repeat (first | (refine Sq.q_ (v := ?_) (a' := ?_) rfl rfl rfl (by rfl) ?_ ?_ ?_; rotate_left 2; (· (rintro w' ⟨s0, s1, s2, s3, s4, s5⟩; go_simp; (first | with_reducible rfl | rw [if_neg (by omega)]))); (· (simp only [Act.put, List.setIfInBounds_toArray, List.set_cons_zero, List.set_cons_succ]; rfl))) | (refine Sq.o_ (a' := ?_) rfl rfl rfl (by rfl) ?_ ?_; rotate_left 1; (· (simp only [Act.put, List.setIfInBounds_toArray, List.set_cons_zero, List.set_cons_succ]; rfl))))
      refine Sq.e_ ?_
      go_wp2_with fail
      go_roundw
      case rel => exact ⟨k + 1, by omega, by go_num, HR7.out, HX7.out, HB7.out⟩
      case measure => simp [intOf]; omega
    · obtain rfl : k = m := by omega
      rw [List.take_of_length_le (by rw [HM.out]; omega)] at hrow
      have HWs : Hid (nm :: (wantsF j).map (giveF s) = wordsS s j) := Lib.hid (by unfold wordsS; rw [HNe.out])
      obtain ⟨g, c, cur, rfl, hlen, hblk, hok, hgb, hcell⟩ := row_open hrow
      have hl3 : (nm :: (wantsF j).map (giveF s)).length ≤ 1000000 := by rw [List.length_cons, List.length_map, ← HM.out]; omega
      have CD := Lib.hid (delete_ g c _ wr hblk hcell hl3 hlen)
      have HX := Lib.hid hx
      have HB := Lib.hid hb
      have hglt : g < wr.heap.size := (Array.getElem?_eq_some_iff.1 hblk).1
      have HLen := Lib.hid hlen
      have HOk := Lib.hid (And.intro hok hglt)
      have HFl : Hid (filt (nm :: (wantsF j).map (giveF s)) = filt (wordsS s j)) := Lib.hid (by rw [HWs.out])
      have HFc : Hid ((filt (nm :: (wantsF j).map (giveF s))).length ≤ c) := Lib.hid (Nat.le_trans (List.length_filter_le _ _) hlen)
      clear hrow hx hb hblk hcell hlen hl3 hok hgb hglt
      generalize filt (nm :: (wantsF j).map (giveF s)) = fl at *
      generalize (nm :: (wantsF j).map (giveF s)).length = nl at *
      go_wp2_with fail
      refine CD.out.mono ?_
      rintro e w5 ⟨rfl, hC5, hch5⟩
      have HX5 : Hid (Blk w5 w.heap.size #[Value.int .i64 j, .int .i64 si, .int .i64 sg, .int .i64 st, .int .i64 sn] 52) := Lib.hid (HX.out.keep hch5 (by have := HOk.out.1; omega))
      have HB5 : Hid (Below w.heap.size w w5) := Lib.hid (Chg.onto HB.out hch5 (Nat.le_refl _) (fun q hq hqe => by have := HOk.out.1; omega))
      have HC5 := Lib.hid hC5
      have HG5 : Hid (g < w5.heap.size) := Lib.hid (Nat.lt_of_lt_of_le HOk.out.2 hch5.size)
      obtain ⟨t, q, htq⟩ : ∃ t q, parseR fl = (t, q) := ⟨_, _, rfl⟩
      have HFn : Hid (Fine fl) := Lib.hid (by rw [HFl.out]; exact HFine.out)
      have CP := parse_ (some ⟨g, 0, none⟩) c fl w5 HC5.out HFc.out (fun y hy => by have := HFn.out.size y hy; omega) (by have := HFn.out.len; omega) (HT.out.step HB5.out) (HE.out.step HB5.out)
      unfold ParsePost at CP
      rw [htq] at CP
      have CP := Lib.hid CP
      have HTq := Lib.hid htq
      clear hC5 hch5 htq CD HX HB
      go_wp2_with fail
      refine CP.out.mono ?_
      rintro e w6 ⟨rfl, hb6⟩
      have HX6 := Lib.hid (HX5.out.below hb6)
      have HB6 := Lib.hid (HB5.out.trans (hb6.mono HB5.out.size))
      have HC6 := Lib.hid (Kd.C_below HC5.out hb6)
      have HG6 : Hid (g < w6.heap.size) := Lib.hid (Nat.lt_of_lt_of_le HG5.out hb6.size)
      clear hb6 CP HX5 HB5 HC5 HG5
      have hX7 := HX6.out.alloc (Obj.cells #[Value.int .i64 t.say, .int .i64 t.i, .int .i64 t.g, .int .i64 t.t, .int .i64 t.n] 52)
      have d0 := hX7.cell (j := 0) rfl
      have d1 := hX7.cell (j := 1) rfl
      have d2 := hX7.cell (j := 2) rfl
      have d3 := hX7.cell (j := 3) rfl
      have d4 := hX7.cell (j := 4) rfl
      have HB7 : Hid (Below w.heap.size w (w6.alloc (Obj.cells #[Value.int .i64 t.say, .int .i64 t.i, .int .i64 t.g, .int .i64 t.t, .int .i64 t.n] 52))) := Lib.hid (HB6.out.alloc HB6.out.size _)
      have HC7 := Lib.hid (Kd.C_alloc HC6.out (Obj.cells #[Value.int .i64 t.say, .int .i64 t.i, .int .i64 t.g, .int .i64 t.t, .int .i64 t.n] 52))
      have HG7 : Hid (g < (w6.alloc (Obj.cells #[Value.int .i64 t.say, .int .i64 t.i, .int .i64 t.g, .int .i64 t.t, .int .i64 t.n] 52)).heap.size) := Lib.hid (by have := HG6.out; simp; omega)
      clear hX7 HX6 HC6 HG6
      by_cases hq : q = 0
      · by_cases hts : t = s
        · have HRR : Hid (showR s = (joinB fl, true)) := Lib.hid (by rw [HR.out, ← HFl.out, HTq.out, hq, hts, if_pos rfl])
          have CJ := join_ g c fl _ HC7.out HG7.out HFc.out (by have := HFn.out.len; omega) (by
            have h1 := split_join HFn.out
            unfold Words.splitS at h1
            split at h1
            · exact absurd (Prod.mk.inj h1).2 (by decide)
            · omega)
          have CJ := Lib.hid CJ
          have hts' := hts.trans HSd.out
          subst hts'
          have e1 : (j : Int) = j := rfl
          clear hts
          subst hq
          simp only at CJ d0 d1 d2 d3 d4 HB7
          go_wp2_with fail
          refine CJ.out.mono ?_
          rintro e w8 ⟨rfl, hb8⟩
          have HB8 := Lib.hid (HB7.out.trans (hb8.mono HB7.out.size))
          clear hb8 CJ
          go_wp2_with fail
          go_ret2
          exact ⟨by rw [HRR.out]; rfl, HB8.out⟩
        · have HRR : Hid (showR s = (E0, false)) := Lib.hid (by rw [HR.out, ← HFl.out, HTq.out, if_neg (fun e => hts (Prod.mk.inj e).1)])
          have hne : (t.say == (j : Int) && ((t.i == si && t.g == sg) && (t.t == st && t.n == sn))) = false := by
            cases hb : (t.say == (j : Int) && ((t.i == si && t.g == sg) && (t.t == st && t.n == sn))) with
            | false => rfl
            | true =>
              simp only [Bool.and_eq_true, beq_iff_eq] at hb
              obtain ⟨b1, ⟨b2, b3⟩, b4, b5⟩ := hb
              refine absurd ?_ hts
              rw [HSd.out]
              cases t
              simp only at b1 b2 b3 b4 b5
              rw [b1, b2, b3, b4, b5]
          clear hts
          subst hq
          go_wp2_with fail
          go_ret2
          exact ⟨by rw [HRR.out]; rfl, HB7.out⟩
      · have HRR : Hid (showR s = (E0, false)) := Lib.hid (by rw [HR.out, ← HFl.out, HTq.out, if_neg (fun e => hq (Prod.mk.inj e).2)])
        have t5 : (q == 0) = false := beq_eq_false_iff_ne.2 hq
        clear hq
        go_wp2_with fail
        all_goals first
          | (exfalso
             have hz : q = 0 := by assumption
             rw [hz] at t5
             exact absurd t5 (by decide))
          | (go_ret2
             exact ⟨by rw [HRR.out]; rfl, HB7.out⟩)
theorem show_ (s : SaidV) (w : World) (hs : In64S s) (hT : Tbl w) (he : Env w) : Calls Tryd.prog 38 #[.agg (cellsS s)] w fun e w' => e = .returned (.tuple #[.string (showR s).1, .bool (showR s).2]) ∧ Below w.heap.size w w' := by
  by_cases hr : s.say < 0 ∨ 18 ≤ s.say
  · exact show_out s w hr
  · exact show_in s w hs hT he hr
end Go.Proofs.YtddmlhcjbifkoaaDoor.Verb
/- What the document shows. No conditions. -/
namespace Go.Proofs.YtddmlhcjbifkoaaDoor.Verb
open Go.Lib Go.RowKit Go.Shelf Go.Proofs.YtddmlhcjbifkoaaDoor.Mem Go.Proofs.YtddmlhcjbifkoaaDoorW.PrintWords Go.Proofs.YtddmlhcjbifkoaaDoorW.PrintLast Go.Proofs.YtddmlhcjbifkoaaDoorW.PrintMore Go.Proofs.YtddmlhcjbifkoaaDoor.Item Go.Proofs.YtddmlhcjbifkoaaDoor.PVerbShows Go.Proofs.YtddmlhcjbifkoaaDoor.PItemReads
open Go.Proofs.YtddmlhcjbifkoaaDoor.Words (joinB)
theorem joinB_snoc (x : ByteArray) (r : List ByteArray) (y : ByteArray) : joinB (x :: r ++ [y]) = joinB (x :: r) ++ (⟨#[32]⟩ : ByteArray) ++ y := by
  have e := fun l : List ByteArray => Item.mk_data (joinB l)
  rw [← e (x :: r ++ [y]), ← e (x :: r), joinB_data, joinB_data, List.map_append, List.map_cons, List.cons_append, join_cons, join_cons, ← Item.mk_data y]
  rw [show (⟨#[32]⟩ : ByteArray) = mk [32] from rfl, mk_append, mk_append]
  have ht : ∀ (a : List (List UInt8)) (b : List UInt8), joinTail [32] (a ++ [b]) = joinTail [32] a ++ 32 :: b := by
    intro a b
    simp [joinTail]
  rw [List.map_cons, List.map_nil, mk_toList, ht]
  simp
theorem joinB_one (x : ByteArray) : joinB [x] = x := by
  rw [← Item.mk_data (joinB [x]), joinB_data, List.map_cons, join_cons]
  show mk (x.data.toList ++ []) = x
  rw [List.append_nil, Item.mk_data]
theorem joinB_size : ∀ (l : List ByteArray), (∀ y ∈ l, y.size ≤ 41) → (joinB l).size ≤ 42 * l.length
  | [], _ => by
    have h : (joinB []).size = (join ([].map (fun b : ByteArray => b.data.toList)) [32]).length := by rw [← joinB_data, sz]
    rw [h]; decide
  | x :: r, h => by
    have hz : (joinB (x :: r)).size = (join ((x :: r).map (·.data.toList)) [32]).length := by rw [← joinB_data, sz]
    rw [hz, List.map_cons, join_cons, List.length_append, List.length_cons]
    have h1 := h x (by simp)
    have h2 := tail_len (r.map (·.data.toList)) (fun y hy => by
      obtain ⟨b, hb, rfl⟩ := List.mem_map.1 hy
      rw [sz]; exact h b (by simp [hb]))
    rw [List.length_map] at h2
    rw [← sz] at h1
    omega
theorem eq_bool (s t : SaidV) : (s.say == t.say && ((s.i == t.i && s.g == t.g) && (s.t == t.t && s.n == t.n))) = decide (s = t) := by
  obtain ⟨a, b, c, d, e⟩ := s
  obtain ⟨a', b', c', d', e'⟩ := t
  rw [Bool.eq_iff_iff, decide_eq_true_iff]
  simp only [Bool.and_eq_true, beq_iff_eq, SaidV.mk.injEq]
  exact ⟨fun ⟨h1, ⟨h2, h3⟩, h4, h5⟩ => ⟨h1, h2, h3, h4, h5⟩, fun ⟨h1, h2, h3, h4, h5⟩ => ⟨h1, ⟨h2, h3⟩, h4, h5⟩⟩
theorem row_open18 {W : World} {base : Nat} {ok : Nat → Prop} {v : Value} {l : List ByteArray} (hl : l.length = 18) (h : Kd.R Kd.string 9 W base ok v l) :
    ∃ g c, v = .slice (some ⟨g, 0, none⟩) 18 c ∧ ∀ w', Below W.heap.size W w' → ∀ j, j < 18 → w'.cell? ⟨g, j, none⟩ = some (.string (l.getD j ByteArray.empty)) := by
  cases l with
  | nil => simp at hl
  | cons x r =>
    obtain ⟨g, c, cur, rfl, _, hblk, _, _, hcell⟩ := row_open h
    refine ⟨g, c, by rw [hl], fun w' hb j hj => ?_⟩
    have hlt : g < W.heap.size := (Array.getElem?_eq_some_iff.1 hblk).1
    have h1 := hcell j ((x :: r).getD j ByteArray.empty) (by rw [List.getD_eq_getElem?_getD, List.getElem?_eq_getElem (by omega)]; rfl)
    rw [← h1]
    have := hb.block g hlt
    simp [World.cell?, this]
attribute [local go_sem high] eqA52
def RefPost (s : SaidV) (w : World) (e : Ending) (w' : World) : Prop := e = .returned (.tuple #[.string (showRef s).1, .bool (showRef s).2]) ∧ Below w.heap.size w w'
set_option maxRecDepth 100000 in
set_option maxHeartbeats 4000000 in
theorem ref_out (s : SaidV) (w : World) (hr : s.say < 0 ∨ 18 ≤ s.say) : Calls Tryd.prog 39 #[.agg (cellsS s)] w (RefPost s w) := by
  have hu52 := Tryd.underlying52
  have HR : Hid (showRef s = (E0, false)) := Lib.hid (by unfold showRef; rw [if_pos hr])
  have HB : Hid (Below w.heap.size w (w.alloc (Obj.cells (cellsS s) 52))) := Lib.hid ((Below.refl _ _).alloc (Nat.le_refl _) _)
  have HX : Hid (Blk (w.alloc (Obj.cells (cellsS s) 52)) w.heap.size #[.int .i64 s.say, .int .i64 s.i, .int .i64 s.g, .int .i64 s.t, .int .i64 s.n] 52) := Lib.hid (Blk.new _ _ _)
  go_enter Tryd.func39, Tryd.ntmps39
  go_wp2_with fail
  refine (whilomref21_table.calls names wantsU _ table_is).mono ?_
  rintro e w1 ⟨v0, v1, rfl, h0, h1, hb⟩
  obtain ⟨g0, c0, rfl, hc0⟩ := row_open18 names_len h0
  obtain ⟨g1, c1, rfl, hc1⟩ := row_open18 wants_len h1
  have HB1 := Lib.hid (HB.out.trans (hb.mono HB.out.size))
  have x0 := (HX.out.below hb).cell (j := 0) rfl
  clear h0 h1 hc0 hc1 hb HX
  by_cases h : s.say < 0
  · have t0 : decide (s.say < 0) = true := decide_eq_true h
    clear hr
    go_wp2_with fail
    go_ret2
    exact ⟨by rw [HR.out]; rfl, HB1.out⟩
  · have t0 : decide (s.say < 0) = false := decide_eq_false h
    have t1 : decide (18 ≤ s.say) = true := decide_eq_true (by omega)
    clear hr
    go_wp2_with fail
    go_ret2
    exact ⟨by rw [HR.out]; rfl, HB1.out⟩
set_option maxRecDepth 100000 in
set_option maxHeartbeats 4000000 in
theorem ref_nil (s : SaidV) (w : World) (hr : s.say = 0) : Calls Tryd.prog 39 #[.agg (cellsS s)] w (RefPost s w) := by
  have hu52 := Tryd.underlying52
  have hu50 := Tryd.underlying50
  have HR : Hid (showRef s = (E0, decide (s = zeroS))) := Lib.hid (by unfold showRef; rw [if_neg (by omega), if_pos hr])
  have hq := eq_bool s zeroS
  obtain ⟨say, si, sg, st, sn⟩ := s
  simp only at hr
  subst hr
  obtain ⟨s, hsd⟩ : ∃ s : SaidV, s = ⟨0, si, sg, st, sn⟩ := ⟨_, rfl⟩
  rw [← hsd] at HR hq ⊢
  have hcs : cellsS s = #[Value.int .i64 0, .int .i64 si, .int .i64 sg, .int .i64 st, .int .i64 sn] := by rw [hsd]
  have HQ := Lib.hid hq
  have HSd := Lib.hid hsd
  clear hq
  rw [hcs]
  clear hsd hcs
  have HB : Hid (Below w.heap.size w (w.alloc (Obj.cells #[Value.int .i64 0, .int .i64 si, .int .i64 sg, .int .i64 st, .int .i64 sn] 52))) := Lib.hid ((Below.refl _ _).alloc (Nat.le_refl _) _)
  have HX : Hid (Blk (w.alloc (Obj.cells #[Value.int .i64 0, .int .i64 si, .int .i64 sg, .int .i64 st, .int .i64 sn] 52)) w.heap.size #[.int .i64 0, .int .i64 si, .int .i64 sg, .int .i64 st, .int .i64 sn] 52) := Lib.hid (Blk.new _ _ _)
  go_enter Tryd.func39, Tryd.ntmps39
  go_wp2_with fail
  refine (whilomref21_table.calls names wantsU _ table_is).mono ?_
  rintro e w1 ⟨v0, v1, rfl, h0, h1, hb⟩
  obtain ⟨g0, c0, rfl, hc0⟩ := row_open18 names_len h0
  obtain ⟨g1, c1, rfl, hc1⟩ := row_open18 wants_len h1
  have HB1 := Lib.hid (HB.out.trans (hb.mono HB.out.size)).drew
  have HX1 := Lib.hid (HX.out.below hb).drew
  have x0 := (HX.out.below hb).cell (j := 0) rfl
  clear h0 h1 hc0 hc1 hb HX HB
  go_wp2_with fail
  refine Sq.region_ (fun w' => w'.cell? ⟨w.heap.size, 0, none⟩ = some (.int .i64 0) ∧ w'.cell? ⟨w.heap.size, 1, none⟩ = some (.int .i64 si) ∧ w'.cell? ⟨w.heap.size, 2, none⟩ = some (.int .i64 sg) ∧ w'.cell? ⟨w.heap.size, 3, none⟩ = some (.int .i64 st) ∧ w'.cell? ⟨w.heap.size, 4, none⟩ = some (.int .i64 sn)) [] [(0, some 29), (1, some 30), (2, some 31), (3, some 2), (4, some 3)] (by kernel_rfl) rfl (by kernel_rfl) (fun _ _ N _ _ h => by cases N <;> exact h) ⟨HX1.out.cell (j := 0) rfl, HX1.out.cell (j := 1) rfl, HX1.out.cell (j := 2) rfl, HX1.out.cell (j := 3) rfl, HX1.out.cell (j := 4) rfl⟩ (fun hHeld => ?_)
  generalize w1.drew = wd at *
  repeat (first | (refine Sq.q_ (v := ?_) (a' := ?_) rfl rfl rfl (by rfl) ?_ ?_ ?_; rotate_left 2; (· (rintro w' ⟨s0, s1, s2, s3, s4⟩; go_simp; (first | with_reducible rfl | rw [if_neg (by omega)]))); (· (simp only [Act.put, List.setIfInBounds_toArray, List.set_cons_zero, List.set_cons_succ]; rfl))) | (refine Sq.o_ (a' := ?_) rfl rfl rfl (by rfl) ?_ ?_; rotate_left 1; (· (simp only [Act.put, List.setIfInBounds_toArray, List.set_cons_zero, List.set_cons_succ]; rfl))))
  refine Sq.e_ ?_
  go_wp2_with fail
  go_ret2
  exact ⟨by rw [HR.out, ← HQ.out, HSd.out]; rfl, HB1.out⟩
set_option maxRecDepth 100000 in
set_option maxHeartbeats 8000000 in
theorem ref_in (s : SaidV) (w : World) (hs : In64S s) (hr : 0 < s.say ∧ s.say < 18) : Calls Tryd.prog 39 #[.agg (cellsS s)] w (RefPost s w) := by
  have hu52 := Tryd.underlying52
  have hu50 := Tryd.underlying50
  obtain ⟨say, si, sg, st, sn⟩ := s
  obtain ⟨j, hj⟩ : ∃ j : Nat, say = j := ⟨say.toNat, by simp only at hr; omega⟩
  subst hj
  obtain ⟨s, hsd⟩ : ∃ s : SaidV, s = ⟨j, si, sg, st, sn⟩ := ⟨_, rfl⟩
  rw [← hsd] at hs hr ⊢
  have hj : s.say = j := by rw [hsd]
  have hj18 : j < 18 := by omega
  have hj0 : 0 < j := by omega
  have hcs : cellsS s = #[Value.int .i64 j, .int .i64 si, .int .i64 sg, .int .i64 st, .int .i64 sn] := by rw [hsd]
  have HSd := Lib.hid hsd
  have HR : Hid (showRef s = if parseR (wordsS s j) = (s, 0) then (joinB (wordsS s j), true) else (E0, false)) := Lib.hid (by unfold showRef; rw [if_neg (by omega), if_neg (by omega), hj, Int.toNat_natCast])
  obtain ⟨U, hU⟩ : ∃ U, U = wantsU.getD j ByteArray.empty := ⟨_, rfl⟩
  obtain ⟨m, hm⟩ : ∃ m, m = (wantsF j).length := ⟨_, rfl⟩
  have hUs : U.size = m := by rw [hU, hm, fld_len]
  have hm2 : m ≤ 2 := by rw [hm]; exact few j hj18
  obtain ⟨nm, hnm⟩ : ∃ nm, nm = nameAt j := ⟨_, rfl⟩
  have HUc : Hid (∀ (k : Nat) (h : k < U.size), (U[k] = 84 ∧ (wantsF j)[k]? = some .T) ∨ (U[k] = 78 ∧ (wantsF j)[k]? = some .N) ∨ (U[k] = 72 ∧ (wantsF j)[k]? = some .H)) := Lib.hid (fun k hk => by
    have hk' : k < U.data.toList.length := by rw [sz]; omega
    have e : U[k] = U.data.toList[k] := rfl
    have e2 : (wantsF j)[k]? = some (fldOf U[k]) := by
      unfold wantsF
      rw [← hU, List.getElem?_map, List.getElem?_eq_getElem hk', e]
      rfl
    rcases chars j hj18 U[k] (by rw [e, ← hU]; exact List.getElem_mem hk') with h | h | h
    · exact Or.inl ⟨h, by rw [e2, h]; rfl⟩
    · exact Or.inr (Or.inl ⟨h, by rw [e2, h]; rfl⟩)
    · exact Or.inr (Or.inr ⟨h, by rw [e2, h]; rfl⟩))
  have HZ : Hid (∀ k, ∀ y ∈ nm :: ((wantsF j).take k).map (giveF s), y.size ≤ 41) := Lib.hid (fun k y hy => by
    rcases List.mem_cons.1 hy with rfl | hy
    · rw [hnm, ← sz]; have := name_size j hj18; omega
    · obtain ⟨f, _, rfl⟩ := List.mem_map.1 hy
      exact (give_fine hs f).1)
  have HG : Hid (∀ f, (giveF s f).size ≤ 41) := Lib.hid (fun f => (give_fine hs f).1)
  have CH : Hid (∀ w1 : World, Calls Tryd.prog 37 #[.agg #[.int .i64 si, .int .i64 sg]] w1 fun e w' => e = .returned (.string (giveF s .H)) ∧ Below w1.heap.size w1 w') := Lib.hid (fun w1 => by
    have h := refHandle s.i s.g w1 hs.2.1 hs.2.2.1
    rw [hsd] at h ⊢
    exact h)
  have CT : Hid (∀ w1 : World, Calls Tryd.prog 35 #[.int .i64 st] w1 fun e w' => e = .returned (.string (giveF s .T)) ∧ Below w1.heap.size w1 w') := Lib.hid (fun w1 => by
    have h := whilomref02_Number.calls 30 s.t _ w1 (number_ev hs.2.2.2.1 (Nat.le_refl _))
    rw [hsd] at h ⊢
    exact h)
  have CN : Hid (∀ w1 : World, Calls Tryd.prog 35 #[.int .i64 sn] w1 fun e w' => e = .returned (.string (giveF s .N)) ∧ Below w1.heap.size w1 w') := Lib.hid (fun w1 => by
    have h := whilomref02_Number.calls 30 s.n _ w1 (number_ev hs.2.2.2.2 (Nat.le_refl _))
    rw [hsd] at h ⊢
    exact h)
  have HWs : Hid (nm :: (wantsF j).map (giveF s) = wordsS s j) := Lib.hid (by unfold wordsS; rw [hnm])
  have HM := Lib.hid hm
  have HUd := Lib.hid hU
  have HNm := Lib.hid hnm
  have t0 : decide ((j : Int) < 0) = false := decide_eq_false (by omega)
  have t1 : decide (18 ≤ (j : Int)) = false := decide_eq_false (by omega)
  have t2 : ((j : Int) == 0) = false := beq_eq_false_iff_ne.2 (by omega)
  have j0 : (0 : Int) ≤ j := by omega
  have j1 : (j : Int) < 18 := by omega
  have j2 : ((j : Int)).toNat = j := by omega
  rw [hcs]
  have HB0 : Hid (Below w.heap.size w (w.alloc (Obj.cells #[Value.int .i64 j, .int .i64 si, .int .i64 sg, .int .i64 st, .int .i64 sn] 52))) := Lib.hid ((Below.refl _ _).alloc (Nat.le_refl _) _)
  have HX0 : Hid (Blk (w.alloc (Obj.cells #[Value.int .i64 j, .int .i64 si, .int .i64 sg, .int .i64 st, .int .i64 sn] 52)) w.heap.size #[.int .i64 j, .int .i64 si, .int .i64 sg, .int .i64 st, .int .i64 sn] 52) := Lib.hid (Blk.new _ _ _)
  clear hs hr hm hU hj hcs hsd hnm
  go_enter Tryd.func39, Tryd.ntmps39
  go_wp2_with fail
  refine (whilomref21_table.calls names wantsU _ table_is).mono ?_
  rintro e w1 ⟨v0, v1, rfl, h0, h1, hb⟩
  obtain ⟨g0, c0, rfl, hc0⟩ := row_open18 names_len h0
  obtain ⟨g1, c1, rfl, hc1⟩ := row_open18 wants_len h1
  have HB1 := Lib.hid (HB0.out.trans (hb.mono HB0.out.size))
  have HX : Hid (∀ w', Below w1.heap.size w1 w' → Blk w' w.heap.size #[.int .i64 j, .int .i64 si, .int .i64 sg, .int .i64 st, .int .i64 sn] 52) := Lib.hid (fun w' h => (HX0.out.below hb).below h)
  have HN : Hid (∀ w', Below w1.heap.size w1 w' → w'.cell? ⟨g0, j, none⟩ = some (.string nm)) := Lib.hid (fun w' h => by rw [HNm.out]; exact hc0 w' h j hj18)
  have HW : Hid (∀ w', Below w1.heap.size w1 w' → w'.cell? ⟨g1, j, none⟩ = some (.string U)) := Lib.hid (fun w' h => by rw [HUd.out]; exact hc1 w' h j hj18)
  clear h0 h1 hc0 hc1 hb HX0 HB0
  have x0 := (HX.out _ (Below.refl _ _)).cell (j := 0) rfl
  have n0 := HN.out _ (Below.refl _ _)
  have HBa : Hid (Below w1.heap.size w1 (w1.alloc (Obj.cells #[.string nm] 9))) := Lib.hid ((Below.refl _ _).alloc (Nat.le_refl _) _)
  have x0' := (HX.out _ HBa.out).cell (j := 0) rfl
  have n0' := HN.out _ HBa.out
  have HRow : Hid (Kd.R Kd.string 9 (w1.alloc (Obj.cells #[.string nm] 9)) w1.heap.size (fun _ => True) (.slice (some ⟨w1.heap.size, 0, none⟩) 1 1) [nm]) := Lib.hid (lit_R (W := w1) (base := w1.heap.size) (ok := fun _ => True) nm trivial (Nat.le_refl _))
  go_wp2_with fail
  generalize w1.alloc (Obj.cells #[.string nm] 9) = w2 at *
  clear x0 n0 x0' n0'
  go_loopw [6, 7, 8] (fun v l i wr => ∃ k : Nat, k ≤ m ∧ i = .int .i64 k ∧ Kd.R Kd.string 9 wr w1.heap.size (fun _ => True) v (nm :: ((wantsF j).take k).map (giveF s)) ∧ l = .string (joinB (nm :: ((wantsF j).take k).map (giveF s))) ∧ Below w1.heap.size w1 wr) (fun _ _ i _ => m - (intOf i).toNat)
  case atStart => exact ⟨0, Nat.zero_le _, rfl, HRow.out, by rw [List.take_zero, List.map_nil, joinB_one], HBa.out⟩
  case round =>
    clear HRow HBa
    obtain ⟨k, hk, rfl, hrow, rfl, hb⟩ := hrel
    have k0 : (0 : Int) ≤ k := by omega
    have k2 : ((k : Int)).toNat = k := by omega
    have HB := Lib.hid hb
    have HRow := Lib.hid hrow
    have x0 := (HX.out _ hb).cell (j := 0) rfl
    have x1 := (HX.out _ hb).cell (j := 1) rfl
    have x2 := (HX.out _ hb).cell (j := 2) rfl
    have u0 := HW.out _ hb
    clear hrow hb
    by_cases hlt : k < m
    · have hlk : k < U.size := by omega
      have k1 : (k : Int) < m := by omega
      have k3 : (k : Int) < U.size := by omega
      have hlz : (joinB (nm :: ((wantsF j).take k).map (giveF s))).size ≤ 200 := by
        have := joinB_size _ (HZ.out k)
        rw [List.length_cons, List.length_map, List.length_take] at this
        omega
      obtain ⟨ls, hls⟩ : ∃ ls, ls = joinB (nm :: ((wantsF j).take k).map (giveF s)) := ⟨_, rfl⟩
      rw [← hls] at hlz ⊢
      have HLs := Lib.hid hls
      clear hls
      have HLn : Hid ((nm :: ((wantsF j).take k).map (giveF s)).length ≤ 3) := Lib.hid (by rw [List.length_cons, List.length_map, List.length_take]; omega)
      have HCh := Lib.hid (HUc.out k hlk)
      go_wp2_with fail
      refine (CH.out _).mono ?_
      rintro e w3 ⟨rfl, hb⟩
      have HB3 := Lib.hid (HB.out.trans (hb.mono HB.out.size))
      have HRow3 := Lib.hid (Kd.R_step HRow.out (fun k _ hl => hb.block k hl))
      clear x0 x1 x2 u0 hb HB HRow
      have x0 := (HX.out _ HB3.out).cell (j := 0) rfl
      have x3 := (HX.out _ HB3.out).cell (j := 3) rfl
      have x4 := (HX.out _ HB3.out).cell (j := 4) rfl
      have u0 := HW.out _ HB3.out
      rcases HCh.out with hch | hch | hch
      · obtain ⟨hc, hf⟩ := hch
        have HF := Lib.hid hf
        clear hf
        go_wp2_with fail
        refine (CT.out _).mono ?_
        rintro e w4 ⟨rfl, hb⟩
        have HB4 := Lib.hid (HB3.out.trans (hb.mono HB3.out.size))
        have HRow4 := Lib.hid (Kd.R_step HRow3.out (fun k _ hl => hb.block k hl))
        clear x0 x3 x4 u0 hb HB3 HRow3
        have x0 := (HX.out _ HB4.out).cell (j := 0) rfl
        have u0 := HW.out _ HB4.out

        obtain ⟨gw, hgw⟩ : ∃ gw, gw = giveF s .T := ⟨_, rfl⟩
        have HGw := Lib.hid hgw
        have hl1 : gw.size ≤ 41 := by rw [hgw]; exact HG.out _
        clear hgw
        rw [← HGw.out]
        have hl2 : ls.size + 1 ≤ 9223372036854775807 := by omega
        have hl3 : (ls ++ (⟨#[32]⟩ : ByteArray)).size + gw.size ≤ 9223372036854775807 := by
          have : (ls ++ (⟨#[32]⟩ : ByteArray)).size = ls.size + 1 := by simp [ByteArray.size_append]; rfl
          omega
        go_wp2_with (first | ((with_reducible refine gate_builtin (b := .append) (xs := #[.tmp 78, .tmp 80]) rfl ?_); at_builtin; refine Kd.R_append Kd.string (w0 := w1) w1.heap.size rfl (.tmp 78) (.tmp 80) 23 9 (.string ⟨#[]⟩) 16 rfl Tryd.underlying23 (by kernel_rfl) rfl (by decide) (by decide) _ (nm :: ((wantsF j).take k).map (giveF s)) gw [.string gw] (fun _ => True) (fun _ => False) rfl rfl ?aP (fun _ hk => hk.elim) ?aF ?aO ?aB ?aS ?aL ?_; (case aP => exact rfl); (case aB => exact HB4.out); (case aF => exact (fun _ _ => trivial)); (case aO => exact HRow4.out); (case aS => exact HB4.out.size); (case aL => have := HLn.out; omega); intro v7 w7 hR7 hb7 hg7 hat7))
        have HR7 : Hid (Kd.R Kd.string 9 w7 w1.heap.size (fun _ => True) v7 (nm :: ((wantsF j).take (k + 1)).map (giveF s))) := Lib.hid (by
          rw [List.take_add_one, HF.out, List.map_append, ← List.cons_append]
          rw [HGw.out] at hR7
          exact hR7)
        have HJ7 : Hid (ls ++ (⟨#[32]⟩ : ByteArray) ++ gw = joinB (nm :: ((wantsF j).take (k + 1)).map (giveF s))) := Lib.hid (by
          rw [HLs.out, HGw.out, List.take_add_one, HF.out, List.map_append, ← List.cons_append]
          exact (joinB_snoc _ _ _).symm)
        have HB7 := Lib.hid hb7
        clear hR7 hb7 hg7 hat7
        go_wp2_with fail
        go_roundw
        case rel => exact ⟨k + 1, by omega, by go_num, HR7.out, congrArg Value.string HJ7.out, HB7.out⟩
        case measure => simp [intOf]; omega
      · obtain ⟨hc, hf⟩ := hch
        have HF := Lib.hid hf
        clear hf
        go_wp2_with fail
        refine (CN.out _).mono ?_
        rintro e w4 ⟨rfl, hb⟩
        have HB4 := Lib.hid (HB3.out.trans (hb.mono HB3.out.size))
        have HRow4 := Lib.hid (Kd.R_step HRow3.out (fun k _ hl => hb.block k hl))
        clear x0 x3 x4 u0 hb HB3 HRow3
        have x0 := (HX.out _ HB4.out).cell (j := 0) rfl
        have u0 := HW.out _ HB4.out

        obtain ⟨gw, hgw⟩ : ∃ gw, gw = giveF s .N := ⟨_, rfl⟩
        have HGw := Lib.hid hgw
        have hl1 : gw.size ≤ 41 := by rw [hgw]; exact HG.out _
        clear hgw
        rw [← HGw.out]
        have hl2 : ls.size + 1 ≤ 9223372036854775807 := by omega
        have hl3 : (ls ++ (⟨#[32]⟩ : ByteArray)).size + gw.size ≤ 9223372036854775807 := by
          have : (ls ++ (⟨#[32]⟩ : ByteArray)).size = ls.size + 1 := by simp [ByteArray.size_append]; rfl
          omega
        go_wp2_with (first | ((with_reducible refine gate_builtin (b := .append) (xs := #[.tmp 78, .tmp 80]) rfl ?_); at_builtin; refine Kd.R_append Kd.string (w0 := w1) w1.heap.size rfl (.tmp 78) (.tmp 80) 23 9 (.string ⟨#[]⟩) 16 rfl Tryd.underlying23 (by kernel_rfl) rfl (by decide) (by decide) _ (nm :: ((wantsF j).take k).map (giveF s)) gw [.string gw] (fun _ => True) (fun _ => False) rfl rfl ?aP (fun _ hk => hk.elim) ?aF ?aO ?aB ?aS ?aL ?_; (case aP => exact rfl); (case aB => exact HB4.out); (case aF => exact (fun _ _ => trivial)); (case aO => exact HRow4.out); (case aS => exact HB4.out.size); (case aL => have := HLn.out; omega); intro v7 w7 hR7 hb7 hg7 hat7))
        have HR7 : Hid (Kd.R Kd.string 9 w7 w1.heap.size (fun _ => True) v7 (nm :: ((wantsF j).take (k + 1)).map (giveF s))) := Lib.hid (by
          rw [List.take_add_one, HF.out, List.map_append, ← List.cons_append]
          rw [HGw.out] at hR7
          exact hR7)
        have HJ7 : Hid (ls ++ (⟨#[32]⟩ : ByteArray) ++ gw = joinB (nm :: ((wantsF j).take (k + 1)).map (giveF s))) := Lib.hid (by
          rw [HLs.out, HGw.out, List.take_add_one, HF.out, List.map_append, ← List.cons_append]
          exact (joinB_snoc _ _ _).symm)
        have HB7 := Lib.hid hb7
        clear hR7 hb7 hg7 hat7
        go_wp2_with fail
        go_roundw
        case rel => exact ⟨k + 1, by omega, by go_num, HR7.out, congrArg Value.string HJ7.out, HB7.out⟩
        case measure => simp [intOf]; omega
      · obtain ⟨hc, hf⟩ := hch
        have HF := Lib.hid hf
        clear hf
        obtain ⟨w4, hw4⟩ : ∃ w4, w4 = w3 := ⟨_, rfl⟩
        rw [← hw4] at HB3 HRow3 x0 u0 ⊢
        clear hw4 x3 x4
        have HB4 := HB3
        have HRow4 := HRow3
        clear HB3 HRow3

        obtain ⟨gw, hgw⟩ : ∃ gw, gw = giveF s .H := ⟨_, rfl⟩
        have HGw := Lib.hid hgw
        have hl1 : gw.size ≤ 41 := by rw [hgw]; exact HG.out _
        clear hgw
        rw [← HGw.out]
        have hl2 : ls.size + 1 ≤ 9223372036854775807 := by omega
        have hl3 : (ls ++ (⟨#[32]⟩ : ByteArray)).size + gw.size ≤ 9223372036854775807 := by
          have : (ls ++ (⟨#[32]⟩ : ByteArray)).size = ls.size + 1 := by simp [ByteArray.size_append]; rfl
          omega
        go_wp2_with (first | ((with_reducible refine gate_builtin (b := .append) (xs := #[.tmp 78, .tmp 80]) rfl ?_); at_builtin; refine Kd.R_append Kd.string (w0 := w1) w1.heap.size rfl (.tmp 78) (.tmp 80) 23 9 (.string ⟨#[]⟩) 16 rfl Tryd.underlying23 (by kernel_rfl) rfl (by decide) (by decide) _ (nm :: ((wantsF j).take k).map (giveF s)) gw [.string gw] (fun _ => True) (fun _ => False) rfl rfl ?aP (fun _ hk => hk.elim) ?aF ?aO ?aB ?aS ?aL ?_; (case aP => exact rfl); (case aB => exact HB4.out); (case aF => exact (fun _ _ => trivial)); (case aO => exact HRow4.out); (case aS => exact HB4.out.size); (case aL => have := HLn.out; omega); intro v7 w7 hR7 hb7 hg7 hat7))
        have HR7 : Hid (Kd.R Kd.string 9 w7 w1.heap.size (fun _ => True) v7 (nm :: ((wantsF j).take (k + 1)).map (giveF s))) := Lib.hid (by
          rw [List.take_add_one, HF.out, List.map_append, ← List.cons_append]
          rw [HGw.out] at hR7
          exact hR7)
        have HJ7 : Hid (ls ++ (⟨#[32]⟩ : ByteArray) ++ gw = joinB (nm :: ((wantsF j).take (k + 1)).map (giveF s))) := Lib.hid (by
          rw [HLs.out, HGw.out, List.take_add_one, HF.out, List.map_append, ← List.cons_append]
          exact (joinB_snoc _ _ _).symm)
        have HB7 := Lib.hid hb7
        clear hR7 hb7 hg7 hat7
        go_wp2_with fail
        go_roundw
        case rel => exact ⟨k + 1, by omega, by go_num, HR7.out, congrArg Value.string HJ7.out, HB7.out⟩
        case measure => simp [intOf]; omega
    · obtain rfl : k = m := by omega
      have ht : (wantsF j).take k = wantsF j := List.take_of_length_le (by rw [HM.out]; omega)
      rw [ht, HWs.out] at HRow
      rw [ht, HWs.out]
      obtain ⟨A, c, rfl, hlen, hC⟩ := Kd.R_reads HRow.out
      have HX6 := Lib.hid (HX.out _ HB.out)
      obtain ⟨t, q, htq⟩ : ∃ t q, parseR (wordsS s j) = (t, q) := ⟨_, _, rfl⟩
      have hz : ∀ y ∈ wordsS s j, y.size ≤ 1000 := by
        intro y hy
        rw [← HWs.out] at hy
        have := HZ.out k y (by rw [ht]; exact hy)
        omega
      have hl : (wordsS s j).length ≤ 1000000 := by
        rw [← HWs.out, List.length_cons, List.length_map, ← HM.out]; omega
      have hev := parse_ev (wordsS s j) hz hl (Nat.le_refl 1400)
      rw [htq] at hev
      have CP := Lib.hid (whilomref21_Parse.calls 1400 A c (wordsS s j) t.say t.i t.g t.t t.n q wr hC hlen hev)
      have HTq := Lib.hid htq
      generalize wordsS s j = ws at *
      clear hC hz hl hev ht htq hlen HRow x1 x2
      go_wp2_with fail
      refine CP.out.mono ?_
      rintro e w6 ⟨rfl, hb6⟩
      have HX6 := Lib.hid (HX6.out.below hb6)
      have HB6 := Lib.hid (HB1.out.trans ((HB.out.trans (hb6.mono HB.out.size)).mono HB1.out.size))
      clear hb6 CP HB x0 u0
      have hX7 := HX6.out.alloc (Obj.cells #[Value.int .i64 t.say, .int .i64 t.i, .int .i64 t.g, .int .i64 t.t, .int .i64 t.n] 52)
      have d0 := hX7.cell (j := 0) rfl
      have d1 := hX7.cell (j := 1) rfl
      have d2 := hX7.cell (j := 2) rfl
      have d3 := hX7.cell (j := 3) rfl
      have d4 := hX7.cell (j := 4) rfl
      have HB7 : Hid (Below w.heap.size w (w6.alloc (Obj.cells #[Value.int .i64 t.say, .int .i64 t.i, .int .i64 t.g, .int .i64 t.t, .int .i64 t.n] 52))) := Lib.hid (HB6.out.alloc HB6.out.size _)
      clear hX7 HX6
      by_cases hq : q = 0
      · by_cases hts : t = s
        · have HRR : Hid (showRef s = (joinB ws, true)) := Lib.hid (by rw [HR.out, HTq.out, hq, hts, if_pos rfl])
          have hts' := hts.trans HSd.out
          subst hts'
          clear hts
          subst hq
          go_wp2_with fail
          go_ret2
          exact ⟨by rw [HRR.out]; rfl, HB7.out⟩
        · have HRR : Hid (showRef s = (E0, false)) := Lib.hid (by rw [HR.out, HTq.out, if_neg (fun e => hts (Prod.mk.inj e).1)])
          have hne : (t.say == (j : Int) && ((t.i == si && t.g == sg) && (t.t == st && t.n == sn))) = false := by
            have := eq_bool t s
            rw [decide_eq_false hts, HSd.out] at this
            exact this
          clear hts
          subst hq
          go_wp2_with fail
          go_ret2
          exact ⟨by rw [HRR.out]; rfl, HB7.out⟩
      · have HRR : Hid (showRef s = (E0, false)) := Lib.hid (by rw [HR.out, HTq.out, if_neg (fun e => hq (Prod.mk.inj e).2)])
        have t5 : (q == 0) = false := beq_eq_false_iff_ne.2 hq
        clear hq
        go_wp2_with fail
        all_goals first
          | (exfalso
             have hz : q = 0 := by assumption
             rw [hz] at t5
             exact absurd t5 (by decide))
          | (go_ret2
             exact ⟨by rw [HRR.out]; rfl, HB7.out⟩)
theorem ref_ (s : SaidV) (w : World) (hs : In64S s) : Calls Tryd.prog 39 #[.agg (cellsS s)] w (RefPost s w) := by
  by_cases hr : s.say < 0 ∨ 18 ≤ s.say
  · exact ref_out s w hr
  · by_cases h0 : s.say = 0
    · exact ref_nil s w h0
    · exact ref_in s w hs (by omega)
end Go.Proofs.YtddmlhcjbifkoaaDoor.Verb
/- The laws on what is shown: both show the same, it is read again, no two are shown alike. No conditions. -/
namespace Go.Proofs.YtddmlhcjbifkoaaDoor.Verb
open Go.Lib Go.RowKit Go.Proofs.YtddmlhcjbifkoaaDoor.Mem Go.Proofs.YtddmlhcjbifkoaaDoorW.PrintWords Go.Proofs.YtddmlhcjbifkoaaDoor.Item Go.Proofs.YtddmlhcjbifkoaaDoor.PVerbShows
open Go.Proofs.YtddmlhcjbifkoaaDoor.Words (joinB splitS split_ev)
attribute [local go_sem high] eqA52
theorem split_calls (a : ByteArray) (ws : List ByteArray) (q : Int) (w : World) (h : splitS a = (ws, q)) :
    Calls Tryd.prog 18 #[.string a] w fun e w' => ∃ A c, e = .returned (.tuple #[.slice A ws.length c, .int .i64 q]) ∧ ws.length ≤ c ∧ Kd.C Kd.string w' A ws.length ws ∧ Below w.heap.size w w' := by
  obtain ⟨K, hK⟩ := split_ev a
  have h1 := hK K (Nat.le_refl _)
  rw [h] at h1
  refine (Go.Proofs.YtddmlhcjbifkoaaDoor.PWordsJoins.whilomref20_Split.calls K a ws q w h1).mono ?_
  rintro e w' ⟨v, rfl, hr, hb⟩
  obtain ⟨A, c, rfl, hlen, hC⟩ := Kd.R_reads hr
  exact ⟨A, c, rfl, hlen, hC, hb⟩
/-- What the words of a shown line say. -/
theorem shown_says {s : SaidV} (hs : In64S s) {a : ByteArray} {ok : Bool} (h : showR s = (a, ok)) : ∃ ws q t e, splitS a = (ws, q) ∧ parseR ws = (t, e) ∧ (∀ y ∈ ws, y.size ≤ 1000000) ∧ ws.length ≤ 1000000 ∧ (ok = false ∨ (t = s ∧ e = 0)) := by
  cases ok with
  | true =>
    obtain ⟨ws, _, h1, h2, h3⟩ := show_back hs h
    exact ⟨ws, 0, s, 0, h1, h2, fun y hy => by have := h3.size y hy; omega, by have := h3.len; omega, Or.inr ⟨rfl, rfl⟩⟩
  | false =>
    have ha : a = E0 := by
      unfold showR at h
      split at h
      · exact (Prod.mk.inj h).1.symm
      · split at h
        · exact absurd (Prod.mk.inj h).2 (by simp)
        · exact (Prod.mk.inj h).1.symm
    subst ha
    have h1 : splitS E0 = ([], 0) := split_join (ws := []) ⟨by simp, fun y hy => by simp at hy, fun y hy => by simp at hy⟩
    exact ⟨[], 0, zeroS, 0, h1, rfl, fun y hy => by simp at hy, by simp, Or.inl rfl⟩
set_option maxRecDepth 100000 in
set_option maxHeartbeats 4000000 in
theorem law_shows (s : SaidV) (w : World) (hs : In64S s) (hT : Tbl w) (he : Env w) : Calls Tryd.prog 13 #[.agg (cellsS s)] w fun e w' => e = .returned (.bool true) ∧ Below w.heap.size w w' := by
  have hu52 := Tryd.underlying52
  have hu50 := Tryd.underlying50
  have HAW : Hid (∀ w1, Below w.heap.size w w1 → Calls Tryd.prog 31 #[] w1 fun e w' => e = .returned (.bool true) ∧ Below w1.heap.size w1 w') := Lib.hid (fun w1 hb => awake31 w1 (hT.step hb) (he.step hb))
  obtain ⟨a, ok, hok⟩ : ∃ a ok, showR s = (a, ok) := ⟨_, _, rfl⟩
  have C1 : Hid (∀ w1, Below w.heap.size w w1 → Calls Tryd.prog 38 #[.agg (cellsS s)] w1 fun e w' => e = .returned (.tuple #[.string a, .bool ok]) ∧ Below w1.heap.size w1 w') := Lib.hid (fun w1 hb => by
    have := show_ s w1 hs (hT.step hb) (he.step hb)
    rw [hok] at this
    exact this)
  have C2 : Hid (∀ w1, Calls Tryd.prog 39 #[.agg (cellsS s)] w1 fun e w' => e = .returned (.tuple #[.string a, .bool ok]) ∧ Below w1.heap.size w1 w') := Lib.hid (fun w1 => by
    have := ref_ s w1 hs
    unfold RefPost at this
    rw [show_same, hok] at this
    exact this)
  obtain ⟨ws, q, t, e0, h1, h2, h3, h4, h5⟩ := shown_says hs hok
  have C3 : Hid (∀ w1, Calls Tryd.prog 18 #[.string a] w1 fun e w' => ∃ A c, e = .returned (.tuple #[.slice A ws.length c, .int .i64 q]) ∧ ws.length ≤ c ∧ Kd.C Kd.string w' A ws.length ws ∧ Below w1.heap.size w1 w') := Lib.hid (fun w1 => split_calls a ws q w1 h1)
  have C4 : Hid (∀ w1 A c, Below w.heap.size w w1 → ws.length ≤ c → Kd.C Kd.string w1 A ws.length ws → Calls Tryd.prog 32 #[.slice A ws.length c] w1 fun e w' => e = .returned (.tuple #[.agg (cellsS t), .int .i64 e0]) ∧ Below w1.heap.size w1 w') := Lib.hid (fun w1 A c hb hc hC => by
    have := parse_ A c ws w1 hC hc h3 h4 (hT.step hb) (he.step hb)
    unfold ParsePost at this
    rw [h2] at this
    exact this)
  have HE := Lib.hid h5
  clear h1 h2 h3 h4 h5 hok
  obtain ⟨say, si, sg, st, sn⟩ := s
  obtain ⟨tsay, ti, tg, tt, tn⟩ := t
  have eS : cellsS ⟨say, si, sg, st, sn⟩ = #[Value.int .i64 say, .int .i64 si, .int .i64 sg, .int .i64 st, .int .i64 sn] := rfl
  have eT : cellsS ⟨tsay, ti, tg, tt, tn⟩ = #[Value.int .i64 tsay, .int .i64 ti, .int .i64 tg, .int .i64 tt, .int .i64 tn] := rfl
  rw [eS] at C1 C2 ⊢
  rw [eT] at C4
  clear eS eT
  have HA : Hid (Below w.heap.size w (w.alloc (Obj.cells #[Value.int .i64 say, .int .i64 si, .int .i64 sg, .int .i64 st, .int .i64 sn] 52))) := Lib.hid ((Below.refl _ _).alloc (Nat.le_refl _) _)
  have HX : Hid (Blk (w.alloc (Obj.cells #[Value.int .i64 say, .int .i64 si, .int .i64 sg, .int .i64 st, .int .i64 sn] 52)) w.heap.size #[.int .i64 say, .int .i64 si, .int .i64 sg, .int .i64 st, .int .i64 sn] 52) := Lib.hid (Blk.new _ _ _)
  clear hT he hs
  go_enter Tryd.func13, Tryd.ntmps13
  go_wp2_with fail
  refine (HAW.out _ HA.out).mono ?_
  rintro e w1 ⟨rfl, hb⟩
  have hx1 := HX.out.below hb
  have HX1 := Lib.hid hx1
  have HB1 := Lib.hid (HA.out.trans (hb.mono HA.out.size))
  have x0 := hx1.cell (j := 0) rfl
  have x1 := hx1.cell (j := 1) rfl
  have x2 := hx1.cell (j := 2) rfl
  have x3 := hx1.cell (j := 3) rfl
  have x4 := hx1.cell (j := 4) rfl
  clear hx1 hb HA HX HAW
  go_wp2_with fail
  refine (C1.out _ HB1.out).mono ?_
  rintro e w2 ⟨rfl, hb⟩
  have hx2 := HX1.out.below hb
  have HX2 := Lib.hid hx2
  have HB2 := Lib.hid (HB1.out.trans (hb.mono HB1.out.size))
  clear x0 x1 x2 x3 x4
  have x0 := hx2.cell (j := 0) rfl
  have x1 := hx2.cell (j := 1) rfl
  have x2 := hx2.cell (j := 2) rfl
  have x3 := hx2.cell (j := 3) rfl
  have x4 := hx2.cell (j := 4) rfl
  clear hx2 hb HX1 HB1 C1
  go_wp2_with fail
  refine (C2.out _).mono ?_
  rintro e w3 ⟨rfl, hb⟩
  have HX3 := Lib.hid (HX2.out.below hb)
  have HB3 := Lib.hid (HB2.out.trans (hb.mono HB2.out.size))
  clear x0 x1 x2 x3 x4 hb HX2 HB2 C2
  go_wp2_with fail
  refine (C3.out _).mono ?_
  rintro e w4 ⟨A, c, rfl, hc, hC, hb⟩
  have HX4 := Lib.hid (HX3.out.below hb)
  have HB4 := Lib.hid (HB3.out.trans (hb.mono HB3.out.size))
  have C5 := Lib.hid (C4.out w4 A c HB4.out hc hC)
  clear hC hb HX3 HB3 C3 C4
  go_wp2_with fail
  refine C5.out.mono ?_
  rintro e w5 ⟨rfl, hb⟩
  have hX5 := (HX4.out.below hb)
  have HB5 := Lib.hid (HB4.out.trans (hb.mono HB4.out.size))
  have hlt := hX5.lt
  have hX6 := hX5.alloc (Obj.cells #[Value.int .i64 tsay, .int .i64 ti, .int .i64 tg, .int .i64 tt, .int .i64 tn] 52)
  have x0 := hX6.cell (j := 0) rfl
  have x1 := hX6.cell (j := 1) rfl
  have x2 := hX6.cell (j := 2) rfl
  have x3 := hX6.cell (j := 3) rfl
  have x4 := hX6.cell (j := 4) rfl
  have HB6 : Hid (Below w.heap.size w (w5.alloc (Obj.cells #[Value.int .i64 tsay, .int .i64 ti, .int .i64 tg, .int .i64 tt, .int .i64 tn] 52))) := Lib.hid (HB5.out.alloc HB5.out.size _)
  clear hb C5 HX4 HB4 hX5 hX6 HB5
  rcases HE.out with h | ⟨h, h'⟩
  · subst h
    clear HE
    go_wp2_with fail
    go_ret
    exact ⟨rfl, HB6.out⟩
  · injection h with h1 h2 h3 h4 h5
    subst h1 h2 h3 h4 h5 h'
    clear HE
    cases ok <;> (go_wp2_with fail; go_ret; exact ⟨by simp, HB6.out⟩)
set_option maxRecDepth 100000 in
set_option maxHeartbeats 4000000 in
theorem law_apart (s t : SaidV) (w : World) (hs : In64S s) (ht : In64S t) (hT : Tbl w) (he : Env w) : Calls Tryd.prog 14 #[.agg (cellsS s), .agg (cellsS t)] w fun e w' => e = .returned (.bool true) ∧ Below w.heap.size w w' := by
  have hu52 := Tryd.underlying52
  have hu50 := Tryd.underlying50
  have HAW : Hid (∀ w1, Below w.heap.size w w1 → Calls Tryd.prog 31 #[] w1 fun e w' => e = .returned (.bool true) ∧ Below w1.heap.size w1 w') := Lib.hid (fun w1 hb => awake31 w1 (hT.step hb) (he.step hb))
  obtain ⟨a, ok, hok⟩ : ∃ a ok, showR s = (a, ok) := ⟨_, _, rfl⟩
  obtain ⟨b, is, his⟩ : ∃ a ok, showR t = (a, ok) := ⟨_, _, rfl⟩
  have C1 : Hid (∀ w1, Below w.heap.size w w1 → Calls Tryd.prog 38 #[.agg (cellsS s)] w1 fun e w' => e = .returned (.tuple #[.string a, .bool ok]) ∧ Below w1.heap.size w1 w') := Lib.hid (fun w1 hb => by
    have := show_ s w1 hs (hT.step hb) (he.step hb)
    rw [hok] at this
    exact this)
  have C2 : Hid (∀ w1, Below w.heap.size w w1 → Calls Tryd.prog 38 #[.agg (cellsS t)] w1 fun e w' => e = .returned (.tuple #[.string b, .bool is]) ∧ Below w1.heap.size w1 w') := Lib.hid (fun w1 hb => by
    have := show_ t w1 ht (hT.step hb) (he.step hb)
    rw [his] at this
    exact this)
  have HE : Hid (ok = true → is = true → (a = b ↔ s = t)) := Lib.hid (fun h1 h2 => ⟨fun e => by subst h1 h2 e; exact show_inj hs ht hok his, fun e => by
    subst e
    rw [hok] at his
    exact (Prod.mk.inj his).1⟩)
  have HQ := Lib.hid (eq_bool s t)
  clear hok his
  obtain ⟨say, si, sg, st, sn⟩ := s
  obtain ⟨tsay, ti, tg, tt, tn⟩ := t
  have eS : cellsS ⟨say, si, sg, st, sn⟩ = #[Value.int .i64 say, .int .i64 si, .int .i64 sg, .int .i64 st, .int .i64 sn] := rfl
  have eT : cellsS ⟨tsay, ti, tg, tt, tn⟩ = #[Value.int .i64 tsay, .int .i64 ti, .int .i64 tg, .int .i64 tt, .int .i64 tn] := rfl
  rw [eS] at C1 ⊢
  rw [eT] at C2 ⊢
  clear eS eT
  have HA : Hid (Below w.heap.size w ((w.alloc (Obj.cells #[Value.int .i64 say, .int .i64 si, .int .i64 sg, .int .i64 st, .int .i64 sn] 52)).alloc (Obj.cells #[Value.int .i64 tsay, .int .i64 ti, .int .i64 tg, .int .i64 tt, .int .i64 tn] 52))) := Lib.hid (((Below.refl _ _).alloc (Nat.le_refl _) _).alloc (by simp) _)
  have HX : Hid (Blk ((w.alloc (Obj.cells #[Value.int .i64 say, .int .i64 si, .int .i64 sg, .int .i64 st, .int .i64 sn] 52)).alloc (Obj.cells #[Value.int .i64 tsay, .int .i64 ti, .int .i64 tg, .int .i64 tt, .int .i64 tn] 52)) w.heap.size #[.int .i64 say, .int .i64 si, .int .i64 sg, .int .i64 st, .int .i64 sn] 52) := Lib.hid ((Blk.new _ _ _).alloc _)
  have HY : Hid (Blk ((w.alloc (Obj.cells #[Value.int .i64 say, .int .i64 si, .int .i64 sg, .int .i64 st, .int .i64 sn] 52)).alloc (Obj.cells #[Value.int .i64 tsay, .int .i64 ti, .int .i64 tg, .int .i64 tt, .int .i64 tn] 52)) (w.heap.size + 1) #[.int .i64 tsay, .int .i64 ti, .int .i64 tg, .int .i64 tt, .int .i64 tn] 52) := Lib.hid (Blk.at_ (by simp) _ _)
  clear hT he hs ht
  go_enter Tryd.func14, Tryd.ntmps14
  go_wp2_with fail
  refine (HAW.out _ HA.out).mono ?_
  rintro e w1 ⟨rfl, hb⟩
  have hx := HX.out.below hb
  have HX1 := Lib.hid hx
  have HY1 := Lib.hid (HY.out.below hb)
  have HB1 := Lib.hid (HA.out.trans (hb.mono HA.out.size))
  have x0 := hx.cell (j := 0) rfl
  have x1 := hx.cell (j := 1) rfl
  have x2 := hx.cell (j := 2) rfl
  have x3 := hx.cell (j := 3) rfl
  have x4 := hx.cell (j := 4) rfl
  clear hx hb HA HX HY HAW
  go_wp2_with fail
  refine (C1.out _ HB1.out).mono ?_
  rintro e w2 ⟨rfl, hb⟩
  have hy := HY1.out.below hb
  have HX2 := Lib.hid (HX1.out.below hb)
  have HY2 := Lib.hid hy
  have HB2 := Lib.hid (HB1.out.trans (hb.mono HB1.out.size))
  clear x0 x1 x2 x3 x4
  have y0 := hy.cell (j := 0) rfl
  have y1 := hy.cell (j := 1) rfl
  have y2 := hy.cell (j := 2) rfl
  have y3 := hy.cell (j := 3) rfl
  have y4 := hy.cell (j := 4) rfl
  clear hy hb HX1 HY1 HB1 C1
  go_wp2_with fail
  refine (C2.out _ HB2.out).mono ?_
  rintro e w3 ⟨rfl, hb⟩
  have hx := HX2.out.below hb
  have hy := HY2.out.below hb
  have HB3 := Lib.hid (HB2.out.trans (hb.mono HB2.out.size))
  clear y0 y1 y2 y3 y4
  have x0 := hx.cell (j := 0) rfl
  have x1 := hx.cell (j := 1) rfl
  have x2 := hx.cell (j := 2) rfl
  have x3 := hx.cell (j := 3) rfl
  have x4 := hx.cell (j := 4) rfl
  have y0 := hy.cell (j := 0) rfl
  have y1 := hy.cell (j := 1) rfl
  have y2 := hy.cell (j := 2) rfl
  have y3 := hy.cell (j := 3) rfl
  have y4 := hy.cell (j := 4) rfl
  clear hx hy hb HX2 HY2 HB2 C2
  cases ok with
  | false =>
    clear HE
    go_wp2_with fail
    go_ret
    exact ⟨rfl, HB3.out⟩
  | true =>
    cases is with
    | false =>
      clear HE
      go_wp2_with fail
      go_ret
      exact ⟨rfl, HB3.out⟩
    | true =>
      have HE' := Lib.hid (HE.out rfl rfl)
      clear HE
      go_wp2_with fail
      go_ret
      refine ⟨?_, HB3.out⟩
      have hb : (a.toList == b.toList) = (say == tsay && (si == ti && sg == tg && (st == tt && sn == tn))) := by
        have h1 : (say == tsay && (si == ti && sg == tg && (st == tt && sn == tn))) = decide ((⟨say, si, sg, st, sn⟩ : SaidV) = ⟨tsay, ti, tg, tt, tn⟩) := HQ.out
        rw [h1, Bool.eq_iff_iff, beq_iff_eq, decide_eq_true_iff, ← HE'.out]
        exact Words.toList_inj
      show Ending.returned (Value.bool ((a.toList == b.toList) == (say == tsay && (si == ti && sg == tg && (st == tt && sn == tn))))) = _
      rw [hb]
      generalize (say == tsay && (si == ti && sg == tg && (st == tt && sn == tn))) = x
      cases x <;> rfl
end Go.Proofs.YtddmlhcjbifkoaaDoor.Verb
