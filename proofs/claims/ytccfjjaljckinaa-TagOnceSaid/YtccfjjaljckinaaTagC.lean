/- The small questions to a table. -/
import Derived.Test.YtccfjjaljckinaaTagB
namespace Go.Proofs.Ytccfjjaljckinaa.Tag
open Go.RowKit Go.Lib Go.Proofs.Ytccfjjaljckinaa.Mem Go.Proofs.Ytccfjjaljckinaa.IMap

theorem zero3 (w : World) : (zeroValue 3).run Try.prog w = .ok (.int .i64 0) w := by kernel_rfl

section
variable {w : World} {B M : Nat} {v : Value} {t : Tab}
theorem TabV.look (h : TabV w B M v t) {x : Int} (hx : In64 x) : (Instr.lookup 67 (.map (some M)) (.int .i64 x) true).run Try.prog w = .ok (.tuple #[.int .i64 ((timesOf t.slots x).getD 0), .bool (timesOf t.slots x).isSome]) w :=
  h.map.look Try.underlying67 Try.underlying3 Try.underlying3 (zero3 w) hx
theorem TabV.c0 (h : TabV w B M v t) : w.cell? ⟨B, 0, none⟩ = some (.int .i64 t.cap) := h.head.cell (j := 0) rfl
theorem TabV.c1 (h : TabV w B M v t) : w.cell? ⟨B, 1, none⟩ = some (.int .i64 t.serial) := h.head.cell (j := 1) rfl
theorem TabV.c2 (h : TabV w B M v t) : w.cell? ⟨B, 2, none⟩ = some v := h.head.cell (j := 2) rfl
theorem TabV.c3 (h : TabV w B M v t) : w.cell? ⟨B, 3, none⟩ = some (.map (some M)) := h.head.cell (j := 3) rfl
/-- What keeps a table. -/
theorem TabV.keep {w' : World} (h : TabV w B M v t) (hb : w'.heap[B]? = w.heap[B]?) (hm : w'.heap[M]? = w.heap[M]?) (hv : ∀ k, v.ownBlock = some k → w'.heap[k]? = w.heap[k]?) : TabV w' B M v t := by
  refine ⟨hb.trans h.head, ?_, h.map.keep hm, h.good⟩
  obtain ⟨hlen, ⟨rfl, h0⟩ | ⟨R, cap, cur, rfl, hge, hb, hle, hm, hsz, htake⟩⟩ := h.row
  · exact ⟨hlen, .inl ⟨rfl, h0⟩⟩
  · exact ⟨hlen, .inr ⟨R, cap, cur, rfl, hge, (hv R rfl).trans hb, hle, hm, hsz, htake⟩⟩
theorem TabV.ltV (h : TabV w B M v t) {k : Nat} (hk : v.ownBlock = some k) : k < w.heap.size := (h.row.lt k hk).2
theorem TabV.below {w' : World} {N : Nat} (h : TabV w B M v t) (hb : Below N w w') (hB : B < N) (hM : M < N) (hv : ∀ k, v.ownBlock = some k → k < N) : TabV w' B M v t :=
  h.keep (hb.block B hB) (hb.block M hM) (fun k hk => hb.block k (hv k hk))
theorem TabV.fresh {w' : World} (h : TabV w B M v t) (hb : Below w.heap.size w w') : TabV w' B M v t :=
  h.below hb h.head.lt h.map.lt (fun _ hk => h.ltV hk)

set_option maxRecDepth 100000 in
theorem len (h : TabV w B M v t) : Calls Try.prog 24 #[.pointer (some ⟨B, 0, none⟩)] w fun e w' => e = .returned (.int .i64 (liveN t.slots)) ∧ w' = w := by
  have c3 := h.c3
  have hl := h.map.len Try.underlying67
  clear h
  go_enter Try.func24, Try.ntmps24
  go_wp2
  go_ret
  exact ⟨rfl, rfl⟩

set_option maxRecDepth 100000 in
theorem capOf (h : TabV w B M v t) : Calls Try.prog 28 #[.pointer (some ⟨B, 0, none⟩)] w fun e w' => e = .returned (.int .i64 t.cap) ∧ w' = w := by
  have c0 := h.c0
  clear h
  go_enter Try.func28, Try.ntmps28
  go_wp2
  go_ret
  exact ⟨rfl, rfl⟩

set_option maxRecDepth 100000 in
theorem serialOf (h : TabV w B M v t) : Calls Try.prog 15 #[.pointer (some ⟨B, 0, none⟩)] w fun e w' => e = .returned (.int .i64 t.serial) ∧ w' = w := by
  have c1 := h.c1
  clear h
  go_enter Try.func15, Try.ntmps15
  go_wp2
  go_ret
  exact ⟨rfl, rfl⟩

/-- The error of an operation more. -/
def mayE (t : Tab) (x : Int) : Int := if (liveN t.slots : Int) = t.cap then 10 else if (timesOf t.slots x).isSome then 11 else 0

set_option maxRecDepth 100000 in
set_option maxHeartbeats 1000000 in
theorem may (h : TabV w B M v t) {x : Int} (hx : In64 x) : Calls Try.prog 29 #[.pointer (some ⟨B, 0, none⟩), .int .i64 x] w fun e w' => e = .returned (.int .i64 (mayE t x)) ∧ ∃ n, w' = w.drewN n := by
  have c0 := h.c0
  have c3 := h.c3
  have hlk := h.look hx
  have hlen : Hid (∀ n, Calls Try.prog 24 #[.pointer (some ⟨B, 0, none⟩)] (w.drewN n) fun e w' => e = .returned (.int .i64 (liveN t.slots)) ∧ w' = w.drewN n) := Lib.hid (fun n => len (h.keep rfl rfl (fun _ _ => rfl)))
  have hlk' : ∀ n, (Instr.lookup 67 (.map (some M)) (.int .i64 x) true).run Try.prog (w.drewN n) = .ok (.tuple #[.int .i64 ((timesOf t.slots x).getD 0), .bool (timesOf t.slots x).isSome]) (w.drewN n) := fun n => (h.keep (w' := w.drewN n) rfl rfl (fun _ _ => rfl)).look hx
  clear h hlk
  unfold mayE
  generalize hL : liveN t.slots = L at *
  generalize timesOf t.slots x = F at *
  by_cases a1 : (L : Int) = t.cap
  · rw [if_pos a1]
    have t1 : ((L : Int) == t.cap) = true := beq_iff_eq.2 a1
    clear a1
    go_enter Try.func29, Try.ntmps29
    go_wp2
    go_quiet ((go_at_call 24; exact Calls.quiet_of_same (hlen.out _)))
    go_wp2
    go_ret
    exact ⟨rfl, _, rfl⟩
  · rw [if_neg a1]
    have t1 : ((L : Int) == t.cap) = false := beq_eq_false_iff_ne.2 a1
    clear a1
    cases F with
    | none =>
      go_enter Try.func29, Try.ntmps29
      go_wp2
      go_quiet ((go_at_call 24; exact Calls.quiet_of_same (hlen.out _)))
      have hlk := hlk' nq
      clear hlk'
      go_wp2
      go_ret
      exact ⟨rfl, _, rfl⟩
    | some i =>
      go_enter Try.func29, Try.ntmps29
      go_wp2
      go_quiet ((go_at_call 24; exact Calls.quiet_of_same (hlen.out _)))
      have hlk := hlk' nq
      clear hlk'
      go_wp2
      go_ret
      exact ⟨rfl, _, rfl⟩
end
end Go.Proofs.Ytccfjjaljckinaa.Tag
