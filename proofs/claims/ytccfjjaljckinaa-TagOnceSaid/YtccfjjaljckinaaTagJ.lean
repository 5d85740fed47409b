/- Issuing an operation. -/
import Derived.Test.YtccfjjaljckinaaTagI
namespace Go.Proofs.Ytccfjjaljckinaa.Tag
open Go.RowKit Go.Lib Go.Shelf Go.Proofs.Ytccfjjaljckinaa.Mem Go.Proofs.Ytccfjjaljckinaa.IMap Go.Proofs.YtccfjjaljckinaaW.PrintWords

def freeI (t : Tab) : Nat := match t.slots.findIdx? pFree with | some i => i | none => t.slots.length
def freeT (t : Tab) : Tab := match t.slots.findIdx? pFree with | some _ => t | none => { t with slots := t.slots ++ [slot0] }
def lastI (t : Tab) : Int := ((freeT t).slots[freeI t]?.map Slot.last).getD 0
theorem freeT_cap (t : Tab) : (freeT t).cap = t.cap ∧ (freeT t).serial = t.serial := by unfold freeT; split <;> exact ⟨rfl, rfl⟩
theorem free_slot (t : Tab) : ∃ s, (freeT t).slots[freeI t]? = some s ∧ s.gen = 0 ∧ s.last < 4294967295 ∧ s.last = lastI t := by
  unfold lastI freeT freeI
  cases hf : t.slots.findIdx? pFree with
  | some i =>
    obtain ⟨hi, hp, _⟩ := List.findIdx?_eq_some_iff_getElem.1 hf
    unfold pFree at hp
    simp only [Bool.and_eq_true, decide_eq_true_eq] at hp
    refine ⟨t.slots[i], List.getElem?_eq_getElem hi, hp.1, hp.2, ?_⟩
    simp only
    rw [List.getElem?_eq_getElem hi]; rfl
  | none =>
    refine ⟨slot0, by simp, rfl, by decide, ?_⟩
    simp only
    rw [List.getElem?_append_right (Nat.le_refl _)]; simp
theorem free_times (t : Tab) (x : Int) : timesOf (freeT t).slots x = timesOf t.slots x := by
  unfold freeT
  split
  · rfl
  · unfold timesOf
    simp only
    rw [List.findIdx?_append]
    cases t.slots.findIdx? (fun s => decide (0 < s.gen) && decide (s.op.time = x)) with
    | some i => rfl
    | none => simp [slot0]

section
variable {w : World} {B M : Nat} {v : Value} {t : Tab}
theorem free_any (h : TabV w B M v t) (hroom : t.slots.length + 1 ≤ 1000000) :
    Calls Try.prog 30 #[.pointer (some ⟨B, 0, none⟩)] w fun e w' => e = .returned (.int .i64 (freeI t)) ∧ ∃ v', TabV w' B M v' (freeT t) ∧
      Chg (fun k => k = B ∨ v.ownBlock = some k) w w' ∧ (v'.ownBlock = v.ownBlock ∨ ∃ k, v'.ownBlock = some k ∧ w.heap.size ≤ k) := by
  unfold freeI freeT
  cases hf : t.slots.findIdx? pFree with
  | some i =>
    refine (free_old h hf).mono ?_
    rintro e w' ⟨rfl, hb⟩
    exact ⟨rfl, v, h.fresh hb, Chg.of_below hb, Or.inl rfl⟩
  | none => exact free_new h hf hroom

/-- What issuing gives, and what it leaves. -/
def issueOp (t : Tab) (x : Int) (ins : Bool) (key : Int) : TOp := ⟨x, ins, if ins then key else 0, t.serial⟩
def issueT (t : Tab) (x : Int) (ins : Bool) (key : Int) : Tab :=
  { freeT t with slots := (freeT t).slots.set (freeI t) ⟨lastI t + 1, lastI t + 1, issueOp t x ins key⟩, serial := t.serial + 1 }
def aggListed (i g : Int) (o : TOp) : Value := .agg #[.int .i64 i, .int .i64 g, .int .i64 o.time, .bool o.ins, .int .i64 o.key, .int .i64 o.id]

set_option maxRecDepth 100000 in
set_option maxHeartbeats 2000000 in
theorem issue_err (h : TabV w B M v t) {x : Int} {ins : Bool} {key : Int} (hx : In64 x) (he : mayE t x ≠ 0) :
    Calls Try.prog 11 #[.pointer (some ⟨B, 0, none⟩), .int .i64 x, .bool ins, .int .i64 key] w fun e w' => e = .returned (.tuple #[aggListed 0 0 op0, .int .i64 (mayE t x)]) ∧ Below w.heap.size w w' := by
  have CM : Hid (∀ w1, Below w.heap.size w w1 → Calls Try.prog 29 #[.pointer (some ⟨B, 0, none⟩), .int .i64 x] w1 fun e w' => e = .returned (.int .i64 (mayE t x)) ∧ ∃ n, w' = w1.drewN n) := Lib.hid (fun w1 hb => may (h.fresh hb) hx)
  generalize mayE t x = E at *
  have t1 : (E == 0) = false := beq_eq_false_iff_ne.2 he
  have t2 : (E != 0) = true := by rw [bne, t1]; rfl
  have hu34 := Try.underlying34
  unfold aggListed op0
  clear h hx he
  go_enter Try.func11, Try.ntmps11
  go_wp2_with fail
  refine gw (fun wa hwa => ?_)
  have HB1 : Hid (Below w.heap.size w wa) := Lib.hid (by rw [← hwa]; exact (Below.refl _ _).alloc (Nat.le_refl _) _)
  have HX1 : Hid (Blk wa w.heap.size #[.int .i64 0, .int .i64 0, .int .i64 0, .bool false, .int .i64 0, .int .i64 0] 34) := Lib.hid (by rw [← hwa]; exact Blk.new _ _ _)
  clear hwa
  refine (CM.out _ HB1.out).mono ?_
  rintro e w2 ⟨rfl, n, rfl⟩
  have HX2 : Hid (Blk (wa.drewN n) w.heap.size #[.int .i64 0, .int .i64 0, .int .i64 0, .bool false, .int .i64 0, .int .i64 0] 34) := Lib.hid (HX1.out.drewN n)
  have HB2 : Hid (Below w.heap.size w (wa.drewN n)) := Lib.hid (bdn HB1.out n)
  generalize wa.drewN n = w2 at *
  have x0 := HX2.out.cell (j := 0) rfl
  have x1 := HX2.out.cell (j := 1) rfl
  have x2 := HX2.out.cell (j := 2) rfl
  have x3 := HX2.out.cell (j := 3) rfl
  have x4 := HX2.out.cell (j := 4) rfl
  have x5 := HX2.out.cell (j := 5) rfl
  have f0 := HX2.out.free 0
  have f1 := HX2.out.free 1
  have f2 := HX2.out.free 2
  have f3 := HX2.out.free 3
  have f4 := HX2.out.free 4
  have f5 := HX2.out.free 5
  clear HB1 HX1 CM
  go_wp2_with fail
  refine bodyPost_ret (results_ct rfl _ _ w.heap.size 34 _ (0, 0) _ rfl ((((((HX2.out.set 0 (.int .i64 0)).set 1 (.int .i64 0)).set 2 (.int .i64 0)).set 3 (.bool false)).set 4 (.int .i64 0)).set 5 (.int .i64 0)) Try.underlying34 rfl (by kernel_rfl)) rfl ?_
  exact ⟨rfl, (((((HB2.out.setCell (by simp) _).setCell (by simp) _).setCell (by simp) _).setCell (by simp) _).setCell (by simp) _).setCell (by simp) _⟩
end
end Go.Proofs.Ytccfjjaljckinaa.Tag
