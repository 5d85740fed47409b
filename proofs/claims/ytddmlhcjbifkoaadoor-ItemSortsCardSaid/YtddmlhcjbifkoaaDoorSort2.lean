/- slices.AppendSeq, Collect at items: the items of a slice, in a block of its own. No conditions. -/
import Derived.Test.YtddmlhcjbifkoaaDoorSort1
namespace Go.Proofs.YtddmlhcjbifkoaaDoor.Sort
open Go Go.Proofs Go.RowKit Go.Shelf
attribute [local go_sem] Oper.semAt_some
def cellL (x : Int × Int) : List Value := [.int .i64 x.1, .int .i64 x.2]
/-- An item in a block of its own. -/
def BoxI (W : World) (B : Nat) (x : Int × Int) : Prop := W.heap[B]? = some (.cells #[.int .i64 x.1, .int .i64 x.2] 41 (0, 0))
theorem BoxI.lt {W : World} {B : Nat} {x : Int × Int} (h : BoxI W B x) : B < W.heap.size := (Array.getElem?_eq_some_iff.1 h).1
theorem BoxI.cell0 {W : World} {B : Nat} {x : Int × Int} (h : BoxI W B x) : W.cell? ⟨B, 0, none⟩ = some (.int .i64 x.1) := by simp [World.cell?, show W.heap[B]? = _ from h]
theorem BoxI.cell1 {W : World} {B : Nat} {x : Int × Int} (h : BoxI W B x) : W.cell? ⟨B, 1, none⟩ = some (.int .i64 x.2) := by simp [World.cell?, show W.heap[B]? = _ from h]
theorem BoxI.new (W : World) (x : Int × Int) : BoxI (W.alloc (.cells #[.int .i64 x.1, .int .i64 x.2] 41)) W.heap.size x := World.alloc_heap_new W _
theorem BoxI.kept {W W' : World} {row : Option Nat} {B : Nat} {x : Int × Int} (h : BoxI W B x) (hg : W.grownBy W' row) (hne : some B ≠ row) : BoxI W' B x := (hg.block B h.lt hne).trans h
theorem boxI_own (B : Nat) (x : Int × Int) : Own (fun (_ : Unit) W => BoxI W B x) := fun _ X _ row hs hg hrow =>
  hs.kept hg (fun e' => by obtain ⟨o, ho, hc⟩ := hrow B e'.symm; rw [show X.heap[B]? = _ from hs] at ho; cases ho; cases hc)
theorem cell_two_new (w : World) (x y : Value) (t : TypeId) : ∀ j u, [x, y][j]? = some u → (w.alloc (.cells #[x, y] t)).cell? ((⟨w.heap.size, 0, none⟩ : Addr).add j) = some u := by
  intro j u hj
  rw [Addr.add_lit, Nat.zero_add]
  have e : (w.alloc (.cells #[x, y] t)).heap[w.heap.size]? = some (.cells #[x, y] t (0, 0)) := World.alloc_heap_new w _
  match j, hj with
  | 0, hj => simp at hj; subst hj; unfold World.cell?; rw [e]; rfl
  | 1, hj => simp at hj; subst hj; unfold World.cell?; rw [e]; rfl
  | n + 2, hj => simp at hj
theorem infoI : (Tryd.prog.info? 41).map (fun i => (i.zero, i.size, i.bytes)) = some (some (.agg #[.int .i64 0, .int .i64 0]), 2, 16) := by kernel_rfl
set_option maxRecDepth 100000 in
set_option maxHeartbeats 4000000 in
theorem appendSeq_in (F : Fence) (n : Nat) (h98 : F.fn 98) (h84 : F.fn 84) (hro : F.round = none) (hn : 3 ≤ n) (Bs cap : Nat) (A : Option Addr) (zs : List (Int × Int)) (hlen : zs.length ≤ 1000000) (w : World) (hBs : Bs < w.heap.size)
    (hc : w.cell? ⟨Bs, 0, none⟩ = some (.slice A zs.length cap)) (hI : Items w.heap.size w A zs) :
    CallsIn F n Tryd.prog 98 #[.slice none 0 0, .func (.func 84) #[] #[.pointer (some ⟨Bs, 0, none⟩)]] w fun e W' => ∃ v, e = .returned v ∧ W'.ownsRow w.heap.size 41 2 v zs.length (zs.flatMap cellL) ∧ Below w.heap.size w W' := by
  have h1 : 1 ≤ n := by omega
  have hu41 := Tryd.underlying41
  have hu63 := Tryd.underlying63
  obtain ⟨i0, hi, hz0, hz1, hz2⟩ := info_parts infoI
  refine callsIn_of_wp_marks Tryd.func98 rfl h98 ?_ hro
  simp only [Tryd.ntmps98, List.size_toArray, List.length_cons, List.length_nil, Nat.reduceAdd, Nat.reduceSub, Array.replicate_succ, Array.replicate_zero, List.push_toArray, List.append_toArray, List.nil_append, List.cons_append]
  gi_wp2
  have bO := Boxed.new w 63 (.slice none 0 0)
  have hB0 : Below w.heap.size w (w.alloc (.cells #[.slice none 0 0] 63)) := (Below.refl _ w).alloc (Nat.le_refl _) _
  refine wpIn_rangeFunc_ownH hro h1 (gf := 84) (lb := #[.pointer (some ⟨Bs, 0, none⟩)]) rfl h84 (enters_of Tryd.func84 (by kernel_rfl) rfl)
    (values_stops F (n - 1) h84 hro (by omega) Bs w.heap.size cap A zs (by omega) _ (by simp; omega) (by simp) ((hB0.cell (p := ⟨Bs, 0, none⟩) hBs).trans hc) (hI.below hB0)) belowK_t (belowK_b (by simp)) (Below.refl _ _) (fun _ => rfl)
    (fun pre W => (∃ v, Boxed W w.heap.size 63 v ∧ W.ownsRow w.heap.size 41 2 v pre.length (pre.flatMap cellL) ∧ True) ∧ Below w.heap.size w W)
    (fun _ _ _ => False)
    (OwnFrom.and (Own.from (holdsRow_own w.heap.size w.heap.size 63 41 2 (fun pre : List (Int × Int) => pre.length) (fun pre => pre.flatMap cellL) (fun pre v => True)) _) (ownFrom_below (Nat.le_refl _) (by simp)))
    (fun _ _ _ _ _ hs _ _ => hs)
    ⟨⟨_, bO, World.ownsRow_nil _ _ _ _, trivial⟩, hB0⟩
    (fun x a' W => ∃ Bx, w.heap.size < Bx ∧ BoxI W Bx x ∧ a' = { tmps := #[.slice none 0 0, .func (.func 84) #[] #[.pointer (some ⟨Bs, 0, none⟩)], .pointer (some ⟨w.heap.size, 0, none⟩), undef, .slice none 0 0, .pointer (some ⟨Bx, 0, none⟩), .func (.func 84) #[] #[.pointer (some ⟨Bs, 0, none⟩)], .agg #[.int .i64 x.1, .int .i64 x.2], undef, undef, undef, undef, undef], defers := [] })
    (fun x a' _ X Y row hs hg hr => by obtain ⟨Bx, h1, h2, h3⟩ := hs; exact ⟨Bx, h1, boxI_own Bx x () X Y row h2 hg (fun r e => (hr r e).2), h3⟩)
    ?assign ?body ?done ?stop
  case assign =>
    rintro l pre x W K ⟨⟨v, hv, hrow, _⟩, hB⟩ hK
    unfold argI
    gi_wp2
    exact hK _ _ ((KeepsOthers.alloc _ _).from _) ((Below.refl _ W).alloc hB.size _) ⟨⟨v, hv.alloc _, hrow.alloc _, trivial⟩, hB.alloc hB.size _⟩ ⟨W.heap.size, hv.lt, BoxI.new W x, rfl⟩
  case body =>
    rintro l pre x a' W hl ⟨r, hr⟩ ⟨⟨v, hv, hrow, _⟩, hB⟩ ⟨Bx, hBx, bX, rfl⟩ hlt
    have hcv := hv.cell
    have hx0 := bX.cell0
    have hx1 := bX.cell1
    gi_wp2_with (gi_at_builtin; refine wpListIn_append_own _ rfl _ _ 63 rfl w.heap.size 41 i0 (.agg #[.int .i64 0, .int .i64 0]) 2 16 Tryd.underlying63 hi hz0 hz1 hz2 rfl (by decide) _ _ _ rfl (hrow.alloc _) ⟨W.heap.size, 0, none⟩ 1 1 [.int .i64 x.1, .int .i64 x.2] rfl rfl (cell_two_new _ _ _ _) (by simp [Value.oneCell']) (by simp [maxLen]; omega) (by omega) (by have := hB.size; simp; omega) ?_; intro v' w1 hown' hgrow _; obtain ⟨g', cap', rfl⟩ := ownsRow_succ hown'; obtain ⟨hv1, hv2, hr2, hk2, hb2⟩ := hv.appended (by decide) hrow hB.size (Nat.le_refl _) hown' hgrow; have hc1 := hv1.cell; have hf1 := hv1.frozen)
    exact ⟨hk2.from _, hb2, ⟨_, hv2, by simpa [cellL] using hr2, trivial⟩, hB.trans hb2⟩
  case done =>
    rintro D ys W hD rfl ⟨⟨v, hv, hrow, _⟩, hB⟩ hK
    have hcv := hv.cell
    gi_wp2
    refine ⟨by simp, .inl ⟨_, _, rfl, run_takeDeferred hK, ?_⟩⟩
    exact ⟨_, results_tmp rfl _ _ _, v, rfl, ownsRow_putObj hrow _ hK rfl, hB.trans (belowK_b (w := w) (Nat.le_refl _) W D _ _ (by simp at hD; omega) hK rfl rfl)⟩
  case stop =>
    rintro D c pre W _ _ h _
    exact h.elim
end Go.Proofs.YtddmlhcjbifkoaaDoor.Sort
