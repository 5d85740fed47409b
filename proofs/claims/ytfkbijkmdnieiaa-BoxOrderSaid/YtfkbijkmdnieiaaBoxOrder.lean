/- The law on a box's order answers true, at any values and sizes. No conditions. -/
import Derived.Test.YtfkbijkmdnieiaaBoxPour
import Derived.Test.YtfkbijkmdnieiaaPPileListsx1
import Derived.Deep.DeepCutAuto
import Derived.Deep.LoopGhost
import Derived.OpenShut
namespace Go.Proofs.Ytfkbijkmdnieiaa.BoxOrder
open Go.RowKit Go.Conc Go.Proofs.Ytfkbijkmdnieiaa.Mem Go.Proofs.Ytfkbijkmdnieiaa.BoxInt Go.Proofs.YtfkbijkmdnieiaaW.PrintWords
open Go.Proofs.Ytfkbijkmdnieiaa.PPileLists Go.Proofs.Ytfkbijkmdnieiaa.PileInt

/-- Two boxes of ints that share nothing, two rows of the call's own that share nothing. -/
structure St (w0 : World) (base B C D cap B' C' D' cap' : Nat) (w : World) (r1 r2 : Value) (ins outs va ub : List Int) : Prop where
  a : IsBox w B C D cap va false
  b : IsBox w B' C' D' cap' ub false
  o1 : Own w base r1 ins
  o2 : Own w base r2 outs
  apart : ∀ k, r1.ownBlock = some k → r2.ownBlock ≠ some k
  bel : Below w0.heap.size w0 w
  low : base ≤ w.heap.size
  one : w0.heap.size ≤ C ∧ C < base ∧ w0.heap.size ≤ C' ∧ C' < base ∧ B < base ∧ D < base ∧ B' < base ∧ D' < base
  old : w0.heap.size ≤ base
  far : Far B C D B' C' D'

theorem chg_grown {w w1 : World} {row : Option Nat} (h : w.grownBy w1 row) : Chg (fun k => some k = row) w w1 := ⟨h.os, h.tape, h.output, h.size, fun k hk hn => h.block k hk hn⟩
theorem own_far {w w1 : World} {base : Nat} {v : Value} {xs : List Int} (h : Own w base v xs) (hm : ∀ k, v.ownBlock = some k → k < w.heap.size → w1.heap[k]? = w.heap[k]?) : Own w1 base v xs := by
  obtain ⟨h0, inner, ho, hr⟩ := h
  exact ⟨h0, inner, own_move ho (fun k hk => hm k hk (own_lt ho k hk)), hr⟩
theorem own_block {w : World} {base : Nat} {v : Value} {xs : List Int} (h : Own w base v xs) (k : Nat) (hk : v.ownBlock = some k) : base ≤ k ∧ k < w.heap.size := by
  obtain ⟨h0, inner, ho, hr⟩ := h
  exact ⟨h0 k hk, own_lt ho k hk⟩

section
variable {w0 : World} {base B C D cap B' C' D' cap' : Nat} {w w1 : World} {r1 r2 : Value} {ins outs va ub : List Int}

theorem St.turn (h : St w0 base B C D cap B' C' D' cap' w r1 r2 ins outs va ub) {va1 ub1 : List Int} (hc : Chg (fun k => k = C ∨ k = C') w w1) (ha : IsBox w1 B C D cap va1 false) (hb : IsBox w1 B' C' D' cap' ub1 false) :
    St w0 base B C D cap B' C' D' cap' w1 r1 r2 ins outs va1 ub1 :=
  ⟨ha, hb, own_far h.o1 (fun k hk hl => hc.block k hl (by have := (own_block h.o1 k hk).1; have := h.one; omega)), own_far h.o2 (fun k hk hl => hc.block k hl (by have := (own_block h.o2 k hk).1; have := h.one; omega)), h.apart,
    hc.onto h.bel (Nat.le_refl _) (by have := h.one; intro k hk; omega), Nat.le_trans h.low hc.size, h.one, h.old, h.far⟩
theorem St.turnA (h : St w0 base B C D cap B' C' D' cap' w r1 r2 ins outs va ub) {va1 : List Int} (hc : Chg (fun k => k = C) w w1) (ha : IsBox w1 B C D cap va1 false) : St w0 base B C D cap B' C' D' cap' w1 r1 r2 ins outs va1 ub :=
  h.turn (hc.mono (fun _ _ h => Or.inl h)) ha (h.b.keep hc (fun e => h.far.c.1 e.symm) (fun e => h.far.c.2.1 e.symm) (fun e => h.far.c.2.2 e.symm))
theorem St.turnB (h : St w0 base B C D cap B' C' D' cap' w r1 r2 ins outs va ub) {ub1 : List Int} (hc : Chg (fun k => k = C') w w1) (hb : IsBox w1 B' C' D' cap' ub1 false) : St w0 base B C D cap B' C' D' cap' w1 r1 r2 ins outs va ub1 :=
  h.turn (hc.mono (fun _ _ h => Or.inr h)) (h.a.keep hc (fun e => h.far.b.2.1 e) (fun e => h.far.c.2.1 e) (fun e => h.far.d.2.1 e)) hb
theorem St.same (h : St w0 base B C D cap B' C' D' cap' w r1 r2 ins outs va ub) (hc : Chg (fun _ => False) w w1) : St w0 base B C D cap B' C' D' cap' w1 r1 r2 ins outs va ub :=
  h.turn (hc.mono (fun _ _ h => h.elim)) (h.a.keep hc (by simp) (by simp) (by simp)) (h.b.keep hc (by simp) (by simp) (by simp))
theorem St.push1 (h : St w0 base B C D cap B' C' D' cap' w r1 r2 ins outs va ub) {v1 : Value} {xs : List Int} (ho : Own w1 base v1 xs) (hg : w.grownBy w1 r1.ownBlock) (hat : v1.ownBlock = r1.ownBlock ∨ ∃ b, v1.ownBlock = some b ∧ w.heap.size ≤ b) :
    St w0 base B C D cap B' C' D' cap' w1 v1 r2 xs outs va ub := by
  have hc := chg_grown hg
  have hbig : ∀ k, some k = r1.ownBlock → base ≤ k := fun k hk => (own_block h.o1 k hk.symm).1
  have ho1 := h.one
  refine ⟨h.a.keep hc ?_ ?_ ?_, h.b.keep hc ?_ ?_ ?_, ho, own_far h.o2 (fun k hk hl => hc.block k hl (fun e => h.apart k e.symm hk)), ?_, ?_, ?_, h.one, h.old, h.far⟩
  · intro hk; have := hbig _ hk; omega
  · intro hk; have := hbig _ hk; omega
  · intro hk; have := hbig _ hk; omega
  · intro hk; have := hbig _ hk; omega
  · intro hk; have := hbig _ hk; omega
  · intro hk; have := hbig _ hk; omega
  · intro k hk hk2
    rcases hat with e | ⟨b, e, hb⟩
    · rw [e] at hk; exact h.apart k hk hk2
    · rw [e] at hk
      injection hk with hk
      have := (own_block h.o2 k hk2).2
      omega
  · exact hc.onto h.bel (Nat.le_refl _) (by have := h.old; intro k hk hk'; have := hbig _ hk'; omega)
  · exact Nat.le_trans h.low hc.size
theorem St.swap (h : St w0 base B C D cap B' C' D' cap' w r1 r2 ins outs va ub) : St w0 base B C D cap B' C' D' cap' w r2 r1 outs ins va ub :=
  ⟨h.a, h.b, h.o2, h.o1, fun k h1 h2 => h.apart k h2 h1, h.bel, h.low, h.one, h.old, h.far⟩
theorem St.push2 (h : St w0 base B C D cap B' C' D' cap' w r1 r2 ins outs va ub) {v1 : Value} {xs : List Int} (ho : Own w1 base v1 xs) (hg : w.grownBy w1 r2.ownBlock) (hat : v1.ownBlock = r2.ownBlock ∨ ∃ b, v1.ownBlock = some b ∧ w.heap.size ≤ b) :
    St w0 base B C D cap B' C' D' cap' w1 r1 v1 ins xs va ub := (h.swap.push1 ho hg hat).swap
end

set_option maxRecDepth 100000 in
set_option maxHeartbeats 2000000 in
theorem walk_long (A0 : Option Addr) (len0 cap0 : Nat) (s0 s1 : Int) (w : World) (hbig : 60 < len0) :
    Calls Try.prog 12 #[.slice A0 len0 cap0, .agg #[.int .u8 s0, .int .u8 s1]] w fun e w' => e = .returned (.bool true) ∧ Below w.heap.size w w' := by
  obtain ⟨wa, hwa⟩ : ∃ wa, wa = w.alloc (Obj.cells #[Value.int IntKind.u8 s0, Value.int IntKind.u8 s1] 54) := ⟨_, rfl⟩
  have HA : Hid (Below w.heap.size w wa) := by subst hwa; exact (Below.refl _ _).alloc (Nat.le_refl _) _
  have HE := Lib.hid hwa
  clear hwa
  go_enter Try.func12, Try.ntmps12
  go_wp2_with fail
  rw [← HE.out]
  refine (BoxInt.awake _).mono ?_
  rintro e w1 ⟨rfl, hb1⟩
  have HB1 : Hid (Below w.heap.size w w1) := HA.out.trans (hb1.mono HA.out.size)
  clear hb1
  go_wp2_with fail
  refine (BoxInt.awake _).mono ?_
  rintro e w2 ⟨rfl, hb2⟩
  have HB2 := Lib.hid hb2; clear hb2
  go_wp2_with fail
  go_ret
  exact ⟨rfl, HB1.out.trans (HB2.out.mono HB1.out.size)⟩

theorem size_of (s : Nat) (h : s ≤ 255) : ∃ c, BoxInt.sizeOf (IntKind.i64.wrap (1 + (IntKind.i64.wrap (s : Int)).tmod 70)) = c ∧ 1 ≤ c ∧ c ≤ 70 := by
  have e1 : IntKind.i64.wrap (s : Int) = s := IntWalk.i64_in _ (by omega)
  have e2 : ((s : Int)).tmod 70 = (s : Int) % 70 := Int.tmod_eq_emod_of_nonneg (by omega)
  have e3 : IntKind.i64.wrap (1 + (s : Int) % 70) = 1 + (s : Int) % 70 := IntWalk.i64_in _ (by omega)
  refine ⟨_, rfl, ?_, ?_⟩ <;> (rw [e1, e2, e3]; unfold BoxInt.sizeOf; split <;> (try split) <;> omega)
/-- A box that New has made for an octet. -/
def Some70 (w : World) (e : Ending) (w' : World) : Prop := ∃ B C D cap, e = .returned (.pointer (some ⟨B, 0, none⟩)) ∧ 1 ≤ cap ∧ cap ≤ 70 ∧ IsBox w' B C D cap [] false ∧ Chg (fun _ => False) w w' ∧ w.heap.size ≤ B ∧ w.heap.size ≤ C ∧ w.heap.size ≤ D
theorem new_u8 (s : Nat) (w : World) (h : s ≤ 255) : Calls Try.prog 45 #[.int .i64 (IntKind.i64.wrap (1 + (IntKind.i64.wrap (s : Int)).tmod 70))] w (Some70 w) := by
  obtain ⟨c, hc, h1, h2⟩ := size_of s h
  refine (BoxInt.new _ w).mono ?_
  rintro e w' ⟨B, C, D, he, hp, r⟩
  rw [hc] at hp
  exact ⟨B, C, D, c, he, h1, h2, hp, r⟩

/-- Both boxes are made. -/
def Two (w : World) (p q : Value) (wx : World) : Prop := ∃ B C D cap B' C' D' cap', p = .pointer (some ⟨B, 0, none⟩) ∧ q = .pointer (some ⟨B', 0, none⟩) ∧ 1 ≤ cap ∧ cap ≤ 70 ∧ 1 ≤ cap' ∧ cap' ≤ 70 ∧ St w wx.heap.size B C D cap B' C' D' cap' wx (.slice none 0 0) (.slice none 0 0) [] [] [] []
theorem two_mk {w w3 : World} {B C D cap B' C' D' cap' n m : Nat} (x1 : 1 ≤ cap) (x2 : cap ≤ 70) (y1 : 1 ≤ cap') (y2 : cap' ≤ 70) (hp : IsBox w3 B C D cap [] false) (hq : IsBox w3 B' C' D' cap' [] false)
    (hb : Below w.heap.size w w3) (hn : w.heap.size ≤ m) (h1 : m ≤ B ∧ m ≤ C ∧ m ≤ D) (h2 : B < n ∧ C < n ∧ D < n) (h3 : n ≤ B' ∧ n ≤ C' ∧ n ≤ D') :
    Two w (.pointer (some ⟨B, 0, none⟩)) (.pointer (some ⟨B', 0, none⟩)) w3 ∧ Two w (.pointer (some ⟨B', 0, none⟩)) (.pointer (some ⟨B, 0, none⟩)) w3 := by
  have k1 := hq.head.lt; have k2 := hq.vals.lt; have k3 := hq.done.lt
  constructor
  · exact ⟨B, C, D, cap, B', C', D', cap', rfl, rfl, x1, x2, y1, y2, hp, hq, Kd.R_nil _ _ _ _ _, Kd.R_nil _ _ _ _ _, by simp [Value.ownBlock], hb, Nat.le_refl _, by omega, hb.size, ⟨by omega, by omega, by omega⟩⟩
  · exact ⟨B', C', D', cap', B, C, D, cap, rfl, rfl, y1, y2, x1, x2, hq, hp, Kd.R_nil _ _ _ _ _, Kd.R_nil _ _ _ _ _, by simp [Value.ownBlock], hb, Nat.le_refl _, by omega, hb.size, ⟨by omega, by omega, by omega⟩⟩

/-- The first loop. -/
def Loop1 (xs : List Int) (w : World) (base B C D cap B' C' D' cap' g : Nat) (s7 s8 s9 : Value) (wr : World) : Prop := ∃ (i : Nat) (ins outs va ub : List Int), i ≤ xs.length ∧ g = xs.length - i ∧ s9 = .int .i64 i ∧
  St w base B C D cap B' C' D' cap' wr s7 s8 ins outs va ub ∧ outs ++ ub ++ va = ins ∧ ins.length ≤ i
/-- Behind the offer. -/
def Cut1 (w : World) (base B C D cap B' C' D' cap' i : Nat) (outs ub : List Int) (s8 s7 : Value) (wx : World) : Prop := ∃ (ins va : List Int),
  St w base B C D cap B' C' D' cap' wx s7 s8 ins outs va ub ∧ outs ++ ub ++ va = ins ∧ ins.length ≤ i + 1

/-- Behind the first pour. -/
def Cut2 (w : World) (base B C D cap B' C' D' cap' : Nat) (ins outs : List Int) (s7 s8 : Value) (wx : World) : Prop := ∃ (ub va : List Int),
  St w base B C D cap B' C' D' cap' wx s7 s8 ins outs va ub ∧ outs ++ ub ++ va = ins
/-- Behind the first take. -/
def Cut3 (w : World) (base B C D cap B' C' D' cap' : Nat) (ins va : List Int) (s7 s8 : Value) (wx : World) : Prop := ∃ (ub outs : List Int),
  St w base B C D cap B' C' D' cap' wx s7 s8 ins outs va ub ∧ outs ++ ub ++ va = ins
/-- The second loop: each round takes one, or nothing is left. -/
def Loop2 (w : World) (base B C D cap B' C' D' cap' : Nat) (ins : List Int) (s7 : Value) (g : Nat) (s8 s12 : Value) (wx : World) : Prop := ∃ (i : Nat) (outs va ub : List Int), i ≤ ins.length + 1 ∧ g = ins.length + 1 - i ∧ s12 = .int .i64 i ∧
  St w base B C D cap B' C' D' cap' wx s7 s8 ins outs va ub ∧ outs ++ ub ++ va = ins ∧ (i ≤ outs.length ∨ (ub = [] ∧ va = []))
theorem next_or {cap' k i : Nat} {ub va outs : List Int} (h1 : k ≤ va.length) (h3 : k = va.length ∨ ub.length + k = cap') (y1 : 1 ≤ cap') (h : i ≤ outs.length ∨ (ub = [] ∧ va = [])) :
    (ub ++ va.take k ≠ [] → i ≤ outs.length) ∧ (ub ++ va.take k = [] → va.drop k = []) := by
  constructor
  · intro hne
    rcases h with h | ⟨rfl, rfl⟩
    · exact h
    · simp at hne
  · intro he
    have hl := congrArg List.length he
    simp at hl
    rw [List.drop_eq_nil_iff]
    have : (va.take k).length = 0 := by rcases hl with ⟨_, h⟩; rcases h with h | h <;> simp [h]
    rw [List.length_take] at this
    rcases hl with ⟨rfl, _⟩
    simp at h3
    omega
theorem same_ints (l : List Int) (hl : l.length ≤ 1000000) : ∃ K, whilomref01_Ints.f K l l = some true := by
  have up : ∀ i : Nat, i ≤ 1000000 → wrap64 ((i : Int) + 1) = ((i + 1 : Nat) : Int) := fun i h => by unfold wrap64; omega
  have go : ∀ (d i : Nat), i + d = l.length → whilomref01_Ints.l0 (d + 1) l l (i : Int) = some true := by
    intro d
    induction d with
    | zero =>
      intro i hi
      simp only [whilomref01_Ints.l0]
      rw [if_neg (by omega)]
    | succ d ih =>
      intro i hi
      rw [whilomref01_Ints.l0, if_pos (by omega), if_pos (by omega), if_pos (by omega), if_pos rfl, up i (by omega)]
      exact ih (i + 1) (by omega)
  refine ⟨l.length + 1, ?_⟩
  unfold whilomref01_Ints.f
  rw [if_pos rfl]
  exact go l.length 0 (by omega)
theorem cell_any {A : Option Addr} {xs : List Int} {w : World} {i : Nat} (h : Kd.C (Kd.int .i64) w A xs.length xs) (hi : i < xs.length) : ∃ ad x, A = some ad ∧ ∀ wy, Below w.heap.size w wy → wy.cell? (ad.add i) = some (.int .i64 x) := by
  obtain ⟨ad, hA, _⟩ := Kd.at_int h i (by omega) (by omega)
  refine ⟨ad, rd xs i, hA, fun wy hb => ?_⟩
  obtain ⟨ad', hA', hc⟩ := Kd.at_int (Kd.C_below h hb) i (by omega) (by omega)
  rw [hA] at hA'
  cases hA'
  rw [Int.toNat_natCast] at hc
  exact hc

set_option maxRecDepth 100000 in
set_option maxHeartbeats 4000000 in
theorem walk_short (A0 : Option Addr) (cap0 : Nat) (xs : List Int) (s0 s1 : Nat) (w : World) (hr0 : Kd.C (Kd.int .i64) w A0 xs.length xs) (h0 : s0 ≤ 255) (h1 : s1 ≤ 255)
    (hw0 : ∀ z ∈ xs, (Lit.int .i64 z).wf = true) (hl0 : xs.length ≤ 60) :
    Calls Try.prog 12 #[.slice A0 xs.length cap0, .agg #[.int .u8 s0, .int .u8 s1]] w fun e w' => e = .returned (.bool true) ∧ Below w.heap.size w w' := by
  have HC0 := Lib.hid hr0; clear hr0
  have HW := Lib.hid hw0; clear hw0
  obtain ⟨wa, hwa⟩ : ∃ wa, wa = w.alloc (Obj.cells #[Value.int IntKind.u8 s0, Value.int IntKind.u8 s1] 54) := ⟨_, rfl⟩
  have HA : Hid (Below w.heap.size w wa) := by subst hwa; exact (Below.refl _ _).alloc (Nat.le_refl _) _
  have HBa : Hid (Blk wa w.heap.size #[.int .u8 s0, .int .u8 s1] 54) := by subst hwa; exact Blk.new _ _ _
  have HE := Lib.hid hwa
  clear hwa
  go_enter Try.func12, Try.ntmps12
  go_wp2_with fail
  rw [← HE.out]
  refine (BoxInt.awake _).mono ?_
  rintro e w1 ⟨rfl, hb1⟩
  have HB1 : Hid (Below w.heap.size w w1) := HA.out.trans (hb1.mono HA.out.size)
  have hBa1 : Blk w1 w.heap.size #[.int .u8 s0, .int .u8 s1] 54 := HBa.out.below hb1
  have hc0 := hBa1.cell (j := 0) rfl
  have hc1 := hBa1.cell (j := 1) rfl
  have HBd : Hid (Blk w1.drew w.heap.size #[.int .u8 s0, .int .u8 s1] 54) := hBa1.drew
  clear hb1 HE HBa HA hBa1
  have HD1 : Hid (Below w.heap.size w w1.drew) := HB1.out.drew
  have HSZ : Hid (w.heap.size ≤ w1.drew.heap.size) := HD1.out.size
  go_upto_region 3 with fail
  go_cut [5, 6] (fun p q wx => Two w p q wx)
  case first =>
    go_region_with (first
      | (go_at_call 45; refine (new_u8 _ _ (by assumption)).mono ?_; rintro e w3 ⟨B', C', D', cap', rfl, hx1', hx2', hp', hc', hB', hC', hD'⟩; have HP3 : Hid (IsBox w3 B C D cap [] false) := (HP2.out.keep hc' (by simp) (by simp) (by simp)); have HP' := Lib.hid hp'; have HD3 : Hid (Below w.heap.size w w3) := (hc'.onto HD2.out (Nat.le_refl _) (by simp)); have hl2 := And.intro HP2.out.head.lt (And.intro HP2.out.vals.lt HP2.out.done.lt); clear hp' hc' HP2 HD2)
      | (go_at_call 45; refine (new_u8 _ _ (by assumption)).mono ?_; rintro e w2 ⟨B, C, D, cap, rfl, hx1, hx2, hp, hc, hB, hC, hD⟩; have HP2 := Lib.hid hp; have hB2 := HBd.out.keep hc (by simp); have hk0 := hB2.cell (j := 0) rfl; have hk1 := hB2.cell (j := 1) rfl; clear hB2; have HD2 : Hid (Below w.heap.size w w2) := (hc.onto HD1.out (Nat.le_refl _) (by simp)); clear hp hc))
    all_goals (go_wp2_with fail; go_meet)
    all_goals (first | exact (two_mk hx1 hx2 hx1' hx2' HP3.out HP'.out HD3.out HSZ.out ⟨hB, hC, hD⟩ hl2 ⟨hB', hC', hD'⟩).1 | exact (two_mk hx1 hx2 hx1' hx2' HP3.out HP'.out HD3.out HSZ.out ⟨hB, hC, hD⟩ hl2 ⟨hB', hC', hD'⟩).2)
  case rest =>
    clear hc0 hc1 HBd HD1 HSZ HB1
    obtain ⟨B, C, D, cap, B', C', D', cap', rfl, rfl, x1, x2, y1, y2, hst⟩ := hcut
    obtain ⟨base, hbase⟩ : ∃ b, b = wc.heap.size := ⟨_, rfl⟩
    rw [← hbase] at hst
    have HS := Lib.hid hst
    clear hst hbase
    go_wp2_with fail
    go_loopg [7, 8, 9] xs.length (fun g s7 s8 s9 wr => Loop1 xs w base B C D cap B' C' D' cap' g s7 s8 s9 wr)
    case atStart => exact ⟨0, [], [], [], [], by omega, by omega, rfl, HS.out, rfl, by simp⟩
    case round =>
      clear HS
      obtain ⟨i, ins, outs, va, ub, hi, rfl, rfl, hst, hall, hlen⟩ := hrel
      have HS := Lib.hid hst
      have HALL := Lib.hid hall
      obtain ⟨A7, c7, rfl, hc7, _⟩ := Kd.R_reads hst.o1
      obtain ⟨A8, c8, rfl, hc8, _⟩ := Kd.R_reads hst.o2
      clear hst hall
      by_cases hlt : i < xs.length
      · obtain ⟨ad, x, rfl, hca⟩ := cell_any HC0.out hlt
        have HCA := Lib.hid hca; clear hca
        have hcell := HCA.out _ HS.out.bel
        go_wp2_with fail
        refine (offer_open B C D cap va x _ HS.out.a).mono ?_
        rintro e w4 ⟨rfl, hp, hc⟩
        have HS4 := Lib.hid (HS.out.turnA hc hp)
        clear hp hc
        go_upto_if 46 with fail
        go_cut [7] (fun s7 wx => Cut1 w base B C D cap B' C' D' cap' i outs ub (.slice A8 outs.length c8) s7 wx)
        case first =>
          have hcell4 := HCA.out _ HS4.out.bel
          clear hcell
          by_cases hr : va.length < cap
          · rw [if_pos hr] at HS4
            have hil : ins.length ≤ 60 := by omega
            go_wp2_with (refine gate_dst (N := 53) rfl ?_; refine Kd.R_append (Kd.int .i64) (w0 := w4) base ?_ (.tmp 47) (.tmp 52) 29 3 (.int .i64 0) 8 ?_ Try.underlying29 PileInt.info3 rfl (by decide) (by decide) _ ins x [.int .i64 x] (fun k => base ≤ k) (fun _ => False) rfl rfl rfl (fun k hk => hk.elim) ?_ HS4.out.o1 (Below.refl _ _) HS4.out.low ?_ ?_; rfl; rfl; exact (fun k hk => Nat.le_trans HS4.out.low hk); omega; intro v7 w7 hR7 hB7 hg7 hat7)
            go_meet
            exact ⟨_, _, HS4.out.push1 hR7 hg7 hat7, by rw [← HALL.out]; simp, by simp only [List.length_append, List.length_singleton]; omega⟩
          · rw [if_neg hr] at HS4
            go_wp2_with fail
            go_meet
            exact ⟨_, _, HS4.out, HALL.out, by omega⟩
        case rest =>
          clear HS4 HS HALL hlen hc7 hcell
          obtain ⟨ins, va, hst, hall, hlen⟩ := hcut
          have HS := Lib.hid hst
          have HALL := Lib.hid hall
          obtain ⟨A7, c7, rfl, hc7, _⟩ := Kd.R_reads hst.o1
          clear hst hall
          have hcell := HCA.out _ HS.out.bel
          go_upto_if 59 with fail
          go_cut [] (fun wx => Cut2 w base B C D cap B' C' D' cap' ins outs (.slice A7 ins.length c7) (.slice A8 outs.length c8) wx)
          case first =>
            go_wp2_with (go_at_call 47; refine (pour B C D cap va false B' C' D' cap' ub _ HS.out.a HS.out.b HS.out.far).mono ?_; rintro e w4 ⟨k, _, _, _, rfl, hp, hq, hc⟩; have HS4 := Lib.hid (HS.out.turn hc hp hq); clear hp hq hc)
            · go_meet
              exact ⟨_, _, HS4.out, by rw [← HALL.out]; try simp⟩
            · go_meet
              exact ⟨_, _, HS.out, HALL.out⟩
          case rest =>
            clear HS HALL hcell
            obtain ⟨ub, va, hst, hall⟩ := hcut
            have HS := Lib.hid hst
            have HALL := Lib.hid hall
            have hcell := HCA.out _ HS.out.bel
            have hil : outs.length ≤ ins.length := by rw [← hall]; simp only [List.length_append]; omega
            clear hst hall
            cases ub with
            | nil =>
              have HT := Lib.hid (take_none B' C' D' cap' false _ HS.out.b)
              go_wp2_with (go_at_call 48; refine (HT.out).mono ?_; rintro e w4 ⟨rfl, hw4⟩; subst hw4)
              all_goals
                go_roundg (xs.length - (i + 1))
                case measure => omega
                case rel => exact ⟨i + 1, ins, outs, va, [], by omega, rfl, by go_num, HS.out, HALL.out, hlen⟩
            | cons u us =>
              have HT := Lib.hid (take_some B' C' D' cap' u us false _ HS.out.b)
              go_wp2_with (first
                | (go_at_call 48; refine (HT.out).mono ?_; rintro e w4 ⟨rfl, hq, hc⟩; have HS4 := Lib.hid (HS.out.turnB hc hq); clear hq hc)
                | (refine gate_dst (N := 78) rfl ?_; refine Kd.R_append (Kd.int .i64) (w0 := w4) base ?_ (.tmp 75) (.tmp 77) 29 3 (.int .i64 0) 8 ?_ Try.underlying29 PileInt.info3 rfl (by decide) (by decide) _ outs u [.int .i64 u] (fun k => base ≤ k) (fun _ => False) rfl rfl rfl (fun k hk => hk.elim) ?_ HS4.out.o2 (Below.refl _ _) HS4.out.low ?_ ?_; rfl; rfl; exact (fun k hk => Nat.le_trans HS4.out.low hk); omega; intro v7 w7 hR7 hB7 hg7 hat7))
              · go_roundg (xs.length - (i + 1))
                case measure => omega
                case rel => exact ⟨i + 1, ins, outs ++ [u], va, us, by omega, rfl, by go_num, HS4.out.push2 hR7 hg7 hat7, by rw [← HALL.out]; try simp, hlen⟩
              · go_roundg (xs.length - (i + 1))
                case measure => omega
                case rel => exact ⟨i + 1, ins, outs, va, u :: us, by omega, rfl, by go_num, HS.out, HALL.out, hlen⟩
      · have hx : i = xs.length := by omega
        subst hx
        clear hi hlt
        have HNN := Lib.hid (HW)
        go_wp2_with fail
        go_loopg [8, 12] (ins.length + 1) (fun g s8 s12 wr => Loop2 w base B C D cap B' C' D' cap' ins (.slice A7 ins.length c7) g s8 s12 wr)
        case atStart => exact ⟨0, outs, va, ub, by omega, rfl, rfl, HS.out, HALL.out, Or.inl (by omega)⟩
        case round =>
          clear HS HALL
          obtain ⟨i, outs, va, ub, hi, rfl, rfl, hst, hall, hor⟩ := hrel
          have HS := Lib.hid hst
          have HALL := Lib.hid hall
          have HOR := Lib.hid hor
          obtain ⟨A8, c8, rfl, hc8, _⟩ := Kd.R_reads hst.o2
          have hol : outs.length ≤ ins.length := by rw [← hall]; simp only [List.length_append]; omega
          clear hst hall hor
          by_cases hlt : i ≤ ins.length
          · go_wp2_with fail
            refine (pour B C D cap va false B' C' D' cap' ub _ HS.out.a HS.out.b HS.out.far).mono ?_
            rintro e w4 ⟨k, hk1, hk2, hk3, rfl, hp, hq, hc⟩
            have HS4 := Lib.hid (HS.out.turn hc hp hq)
            have HALL4 : Hid (outs ++ (ub ++ va.take k) ++ va.drop k = ins) := Lib.hid (by have := HALL.out; subst this; simp)
            have HOR4 := Lib.hid (next_or (cap' := cap') hk1 hk3 y1 HOR.out)
            clear hp hq hc hk1 hk2 hk3 HS HALL HOR
            generalize va.drop k = va1 at HS4 HALL4 HOR4
            generalize ub ++ va.take k = ub1 at HS4 HALL4 HOR4
            cases ub1 with
            | nil =>
              have HVA := Lib.hid (HOR4.out.2 rfl)
              have HT := Lib.hid (take_none B' C' D' cap' false _ HS4.out.b)
              go_wp2_with (go_at_call 48; refine (HT.out).mono ?_; rintro e w5 ⟨rfl, hw5⟩; subst hw5)
              go_roundg (ins.length + 1 - (i + 1))
              case measure => omega
              case rel => exact ⟨i + 1, outs, va1, [], by omega, rfl, by go_num, HS4.out, HALL4.out, Or.inr ⟨rfl, HVA.out⟩⟩
            | cons u us =>
              have HT := Lib.hid (take_some B' C' D' cap' u us false _ HS4.out.b)
              have hge := HOR4.out.1 (by simp)
              go_wp2_with (first
                | (go_at_call 48; refine (HT.out).mono ?_; rintro e w5 ⟨rfl, hq, hc⟩; have HS5 := Lib.hid (HS4.out.turnB hc hq); clear hq hc)
                | (refine gate_dst (N := 97) rfl ?_; refine Kd.R_append (Kd.int .i64) (w0 := w5) base ?_ (.tmp 94) (.tmp 96) 29 3 (.int .i64 0) 8 ?_ Try.underlying29 PileInt.info3 rfl (by decide) (by decide) _ outs u [.int .i64 u] (fun k => base ≤ k) (fun _ => False) rfl rfl rfl (fun k hk => hk.elim) ?_ HS5.out.o2 (Below.refl _ _) HS5.out.low ?_ ?_; rfl; rfl; exact (fun k hk => Nat.le_trans HS5.out.low hk); omega; intro v7 w7 hR7 hB7 hg7 hat7))
              go_roundg (ins.length + 1 - (i + 1))
              case measure => omega
              case rel => exact ⟨i + 1, outs ++ [u], va1, us, by omega, rfl, by go_num, HS5.out.push2 hR7 hg7 hat7, by rw [← HALL4.out]; simp, Or.inl (by simp only [List.length_append, List.length_singleton]; omega)⟩
          · have hub : ub = [] ∧ va = [] := by
              rcases HOR.out with h | h
              · omega
              · exact h
            obtain ⟨rfl, rfl⟩ := hub
            have e : outs = ins := by have := HALL.out; simpa using this
            subst e
            have hml : outs.length ≤ 60 := by omega
            obtain ⟨K1, hK1⟩ := same_ints outs (by omega)
            have HC1 := Lib.hid (Kd.R_reads' HS.out.o1).2.2
            have HC2 := Lib.hid (Kd.R_reads' HS.out.o2).2.2
            have HK1 := Lib.hid hK1
            clear hK1 HALL HOR
            go_wp2_with fail
            refine (whilomref01_Ints.calls K1 A7 c7 outs A8 c8 outs true _ HC1.out hc7 HC2.out hc8 HK1.out).mono ?_
            rintro e w9 ⟨rfl, hd⟩
            have HS9 := Lib.hid (HS.out.same (Chg.of_below hd.below))
            clear hd HS HC1 HC2
            go_wp2_with fail
            refine (BoxInt.len B C D cap [] false _ HS9.out.a).mono ?_
            rintro e w10 ⟨rfl, rfl⟩
            go_wp2_with fail
            refine (BoxInt.len B' C' D' cap' [] false _ HS9.out.b).mono ?_
            rintro e w11 ⟨rfl, rfl⟩
            go_wp2_with fail
            go_ret
            exact ⟨rfl, HS9.out.bel⟩

theorem walk (A0 : Option Addr) (len0 cap0 : Nat) (xs : List Int) (s0 s1 : Nat) (w : World)
    (hr0 : Kd.C (Kd.int .i64) w A0 len0 xs) (_ : len0 ≤ cap0) (hw0 : ∀ z ∈ xs, (Lit.int .i64 z).wf = true) (h0 : s0 ≤ 255) (h1 : s1 ≤ 255) :
    Calls Try.prog 12 #[.slice A0 len0 cap0, .agg #[.int .u8 s0, .int .u8 s1]] w fun e w' => e = .returned (.bool true) ∧ Below w.heap.size w w' := by
  by_cases hbig : 60 < len0
  · exact walk_long A0 len0 cap0 s0 s1 w hbig
  · have e0 := Kd.C_len hr0
    subst e0
    exact walk_short A0 cap0 xs s0 s1 w hr0 h0 h1 hw0 (by omega)
end Go.Proofs.Ytfkbijkmdnieiaa.BoxOrder
namespace Go.Proofs.Ytfkbijkmdnieiaa.BoxOrder
open Go.RowKit Go.ChangeShapes Go.WideShapes Go.Proofs.YtfkbijkmdnieiaaW.PrintWords
theorem cells (z : Int × Int) {w : World} {cs : List Value} (h : (Kd.pair (Kd.int .u8) (Kd.int .u8)).K w z cs) : True ∧ cs = [.int .u8 z.1, .int .u8 z.2] := by
  obtain ⟨c0, c1, rfl, h0, h1⟩ := h
  have h0 : c0 = [.int .u8 z.1] := h0
  have h1 : c1 = [.int .u8 z.2] := h1
  subst h0; subst h1
  exact ⟨trivial, rfl⟩
theorem walk_row (A0 : Option Addr) (len0 cap0 : Nat) (xs : List Int) (z : Int × Int) (w : World)
    (hr0 : Kd.C (Kd.int .i64) w A0 len0 xs) (hl : len0 ≤ cap0) (hw0 : ∀ z ∈ xs, (Lit.int .i64 z).wf = true) (_ : True) (hz : (Lit.int .u8 z.1).wf = true ∧ (Lit.int .u8 z.2).wf = true) :
    Calls Try.prog 12 #[.slice A0 len0 cap0, .agg #[.int .u8 z.1, .int .u8 z.2]] w fun e w' => e = .returned (.bool true) ∧ Below w.heap.size w w' := by
  obtain ⟨a, b⟩ := z
  have h1 := bounds_u8 hz.1
  have h2 := bounds_u8 hz.2
  obtain ⟨n, rfl⟩ := Int.eq_ofNat_of_zero_le h1.1
  obtain ⟨m, rfl⟩ := Int.eq_ofNat_of_zero_le h2.1
  exact walk A0 len0 cap0 xs n m w hr0 hl hw0 (by omega) (by omega)
end Go.Proofs.Ytfkbijkmdnieiaa.BoxOrder
