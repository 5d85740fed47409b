/- What words say, by the program, whatever the words; the document's examples. No conditions. -/
import Derived.Test.YtddmlhcjbifkoaaDoorVerb8
import Derived.Test.YtddmlhcjbifkoaaDoorPVerbShowsx1
namespace Go.Proofs.YtddmlhcjbifkoaaDoor.Verb
open Go.Lib Go.RowKit Go.Proofs.YtddmlhcjbifkoaaDoor.Mem Go.Proofs.YtddmlhcjbifkoaaDoorW.PrintWords Go.Proofs.YtddmlhcjbifkoaaDoor.Item Go.Proofs.YtddmlhcjbifkoaaDoor.PVerbShows
theorem parse_ (A : Option Addr) (c : Nat) (ws : List ByteArray) (w : World) (hC : Kd.C Kd.string w A ws.length ws) (hc : ws.length ≤ c) (hz : ∀ y ∈ ws, y.size ≤ 1000000) (hl : ws.length ≤ 1000000) (hT : Tbl w) (he : Env w) :
    Calls Tryd.prog 32 #[.slice A ws.length c] w (ParsePost ws w) := by
  cases ws with
  | nil => exact parse_nil A c w
  | cons x r =>
    cases h : findC x 0 with
    | none => exact parse_none A c x r w hC hT h
    | some j =>
      by_cases hl2 : (wantsF j).length = r.length
      · exact parse_loop A c x r w hC hc (fun y hy => hz y (List.mem_cons_of_mem _ hy)) hT he h hl2
      · exact parse_bad A c x r w hC hT h hl2 (by rw [List.length_cons] at hl; omega)
theorem c_cells {w : World} {g : Nat} {l : List ByteArray} {t : TypeId} (h : w.heap[g]? = some (.cells (l.map Value.string).toArray t (0, 0))) (hl : l.length ≤ 9223372036854775807) : Kd.C Kd.string w (some ⟨g, 0, none⟩) l.length l := by
  refine ⟨rfl, hl, fun _ => ⟨⟨g, 0, none⟩, rfl, fun j p hj => ⟨[.string p], rfl, rfl, fun i u hu => ?_⟩⟩⟩
  cases i with
  | succ i => simp at hu
  | zero =>
    simp only [List.getElem?_cons_zero, Option.some.injEq] at hu
    subst hu
    have e : (⟨g, 0, none⟩ : Addr).add (j * Kd.string.sz + 0) = ⟨g, j, none⟩ := by
      show (⟨g, 0, none⟩ : Addr).add (j * 1 + 0) = _
      rw [Addr.add_lit]; simp
    rw [e]
    simp [World.cell?, h, hj]
def w1s : List ByteArray := [⟨#[105, 110, 115, 101, 114, 116]⟩, ⟨#[53]⟩, ⟨#[45, 55]⟩]
def w2s : List ByteArray := [⟨#[114, 101, 118, 111, 107, 101]⟩, ⟨#[48, 46, 49]⟩]
theorem said1 : parseR w1s = (⟨1, 0, 0, 5, -7⟩, 0) := by decide +kernel
theorem said2 : parseR w2s = (⟨3, 0, 1, 0, 0⟩, 0) := by decide +kernel
attribute [local go_sem high] eqA52
set_option maxRecDepth 100000 in
set_option maxHeartbeats 1000000 in
theorem awake31 (w : World) (hT : Tbl w) (he : Env w) : Calls Tryd.prog 31 #[] w fun e w' => e = .returned (.bool true) ∧ Below w.heap.size w w' := by
  have hu52 := Tryd.underlying52
  have hu50 := Tryd.underlying50
  have HT := Lib.hid hT
  have HE := Lib.hid he
  clear hT he
  have hb0 : Below w.heap.size w (w.alloc (Obj.cells #[Value.string ⟨#[105, 110, 115, 101, 114, 116]⟩, Value.string ⟨#[53]⟩, Value.string ⟨#[45, 55]⟩] 9)) := (Below.refl _ _).alloc (Nat.le_refl _) _
  have CP1 := parse_ (some ⟨w.heap.size, 0, none⟩) 3 w1s _ (c_cells (w := w.alloc (Obj.cells #[Value.string ⟨#[105, 110, 115, 101, 114, 116]⟩, Value.string ⟨#[53]⟩, Value.string ⟨#[45, 55]⟩] 9)) (g := w.heap.size) (t := 9) (Blk.new w #[Value.string ⟨#[105, 110, 115, 101, 114, 116]⟩, Value.string ⟨#[53]⟩, Value.string ⟨#[45, 55]⟩] 9) (by decide)) (by decide) (by decide) (by decide) (HT.out.step hb0) (HE.out.step hb0)
  unfold ParsePost at CP1
  rw [said1] at CP1
  have CP1 := Lib.hid CP1
  have HB0 := Lib.hid hb0
  clear hb0
  go_enter Tryd.func31, Tryd.ntmps31
  go_wp2_with fail
  refine CP1.out.mono ?_
  rintro e w1 ⟨rfl, hb⟩
  have HB1 := Lib.hid (HB0.out.trans (hb.mono HB0.out.size))
  clear hb HB0 CP1
  have HX : Hid (Blk ((w1.alloc (Obj.cells #[Value.int .i64 1, .int .i64 0, .int .i64 0, .int .i64 5, .int .i64 (-7)] 52)).alloc (Obj.cells #[Value.string ⟨#[114, 101, 118, 111, 107, 101]⟩, Value.string ⟨#[48, 46, 49]⟩] 9)) w1.heap.size #[.int .i64 1, .int .i64 0, .int .i64 0, .int .i64 5, .int .i64 (-7)] 52) := Lib.hid ((Blk.new _ _ _).alloc _)
  have hb1 : Below w.heap.size w ((w1.alloc (Obj.cells #[Value.int .i64 1, .int .i64 0, .int .i64 0, .int .i64 5, .int .i64 (-7)] 52)).alloc (Obj.cells #[Value.string ⟨#[114, 101, 118, 111, 107, 101]⟩, Value.string ⟨#[48, 46, 49]⟩] 9)) := (HB1.out.alloc HB1.out.size _).alloc (by have := HB1.out.size; simp; omega) _
  have CP2 := parse_ (some ⟨w1.heap.size + 1, 0, none⟩) 2 w2s _ (c_cells (w := (w1.alloc (Obj.cells #[Value.int .i64 1, .int .i64 0, .int .i64 0, .int .i64 5, .int .i64 (-7)] 52)).alloc (Obj.cells #[Value.string ⟨#[114, 101, 118, 111, 107, 101]⟩, Value.string ⟨#[48, 46, 49]⟩] 9)) (g := w1.heap.size + 1) (t := 9) (Blk.at_ (by simp) #[Value.string ⟨#[114, 101, 118, 111, 107, 101]⟩, Value.string ⟨#[48, 46, 49]⟩] 9) (by decide)) (by decide) (by decide) (by decide) (HT.out.step hb1) (HE.out.step hb1)
  unfold ParsePost at CP2
  rw [said2] at CP2
  have CP2 := Lib.hid CP2
  have HB2 := Lib.hid hb1
  clear hb1 HB1
  go_wp2_with fail
  refine CP2.out.mono ?_
  rintro e w2 ⟨rfl, hb⟩
  have HX2 := HX.out.below hb
  have HB3 := Lib.hid (HB2.out.trans (hb.mono HB2.out.size))
  have hlt : w1.heap.size < w2.heap.size := HX2.lt
  have d0 := HX2.cell (j := 0) rfl
  have d1 := HX2.cell (j := 1) rfl
  have d2 := HX2.cell (j := 2) rfl
  have d3 := HX2.cell (j := 3) rfl
  have d4 := HX2.cell (j := 4) rfl
  have HB4 : Hid (Below w.heap.size w (w2.alloc (Obj.cells #[Value.int .i64 3, .int .i64 0, .int .i64 1, .int .i64 0, .int .i64 0] 52))) := Lib.hid (HB3.out.alloc HB3.out.size _)
  have d0' := (HX2.alloc (Obj.cells #[Value.int .i64 3, .int .i64 0, .int .i64 1, .int .i64 0, .int .i64 0] 52)).cell (j := 0) rfl
  have d1' := (HX2.alloc (Obj.cells #[Value.int .i64 3, .int .i64 0, .int .i64 1, .int .i64 0, .int .i64 0] 52)).cell (j := 1) rfl
  have d2' := (HX2.alloc (Obj.cells #[Value.int .i64 3, .int .i64 0, .int .i64 1, .int .i64 0, .int .i64 0] 52)).cell (j := 2) rfl
  have d3' := (HX2.alloc (Obj.cells #[Value.int .i64 3, .int .i64 0, .int .i64 1, .int .i64 0, .int .i64 0] 52)).cell (j := 3) rfl
  have d4' := (HX2.alloc (Obj.cells #[Value.int .i64 3, .int .i64 0, .int .i64 1, .int .i64 0, .int .i64 0] 52)).cell (j := 4) rfl
  clear hb HB2 CP2 HX HX2
  go_wp2_with fail
  go_ret
  exact ⟨rfl, HB4.out⟩
end Go.Proofs.YtddmlhcjbifkoaaDoor.Verb
