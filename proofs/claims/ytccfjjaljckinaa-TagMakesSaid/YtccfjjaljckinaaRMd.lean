/- Tables and their document, part Md of this seat's texts: plain facts and walks. No conditions. -/
import Derived.Test.YtccfjjaljckinaaRMc
import Derived.Test.YtccfjjaljckinaaRRefQ
import Derived.Test.YtccfjjaljckinaaRRefP
import Derived.RegionTactic
/- The document's lists of operations: what its printed loops answer, in plain words. No conditions. -/
namespace Go.Proofs.Ytccfjjaljckinaa.Tag
open Go.RowKit Go.Lib Go.Proofs.Ytccfjjaljckinaa.Mem Go.Proofs.Ytccfjjaljckinaa.IMap Go.Proofs.YtccfjjaljckinaaW.PrintWords Go.Proofs.Ytccfjjaljckinaa.PTagActs
set_option linter.unusedSimpArgs false

def toS (l : Listed) : S34 := ⟨⟨l.r.i, l.r.g⟩, ⟨l.o.time, l.o.ins, ⟨l.o.key, l.o.id⟩⟩⟩
abbrev sL (l : List Listed) : List S34 := l.map toS

/-- The first place of those that are so, or -1. -/
def idxI (p : Listed → Bool) (l : List Listed) : Int := match l.findIdx? p with | some i => (i : Int) | none => -1
theorem idxI_none {p : Listed → Bool} {l : List Listed} (h : ∀ s ∈ l, p s = false) : idxI p l = -1 := by
  unfold idxI
  rw [List.findIdx?_eq_none_iff.2 h]
theorem idxI_cases (p : Listed → Bool) (l : List Listed) : (idxI p l = -1 ∧ ∀ s ∈ l, p s = false) ∨ ∃ (i : Nat) (s : Listed), idxI p l = i ∧ l[i]? = some s ∧ p s = true ∧ ∀ j b, j < i → l[j]? = some b → p b = false := by
  unfold idxI
  cases h : l.findIdx? p with
  | none => exact Or.inl ⟨rfl, List.findIdx?_eq_none_iff.1 h⟩
  | some i =>
    obtain ⟨hlt, hp, hb⟩ := List.findIdx?_eq_some_iff_getElem.1 h
    refine Or.inr ⟨i, l[i], rfl, List.getElem?_eq_getElem hlt, hp, fun j b hj hb' => ?_⟩
    obtain ⟨h1, h2⟩ := List.getElem?_eq_some_iff.1 hb'
    have := hb j hj
    rw [h2] at this
    simpa using this

theorem rd_at {l : List Listed} {i : Nat} {s : Listed} (hs : l[i]? = some s) : rd_T34 (sL l) (i : Int) = toS s := by
  unfold rd_T34
  rw [Int.toNat_natCast]
  simp [List.getD, hs]
theorem up_nat {i : Nat} (h : i ≤ 1000000) : wrap64 ((i : Int) + 1) = ((i + 1 : Nat) : Int) := by unfold wrap64; omega
theorem get_ex {l : List Listed} {i : Nat} (h : i < l.length) : ∃ s, l[i]? = some s := ⟨_, List.getElem?_eq_getElem h⟩

def hasRef (r : Ref) (y : Listed) : Bool := y.r.i == r.i && y.r.g == r.g
theorem any_of_not {p : Listed → Bool} {l : List Listed} (h : ∀ j b, j < l.length → l[j]? = some b → p b = false) : l.any p = false := by
  rw [List.any_eq_false]
  intro s hs
  obtain ⟨j, hj⟩ := List.getElem?_of_mem hs
  rw [h j s (List.getElem?_eq_some_iff.1 hj).1 hj]; decide
theorem any_of_at {p : Listed → Bool} {l : List Listed} {i : Nat} {s : Listed} (hs : l[i]? = some s) (hp : p s = true) : l.any p = true := List.any_eq_true.2 ⟨s, List.mem_of_getElem? hs, hp⟩
theorem slot_loop (l : List Listed) (x : Int) (hl : l.length ≤ 1000000) : ∀ (d i : Nat), i + d = l.length → (∀ j b, j < i → l[j]? = some b → (b.r.i == x) = false) →
    whilomref16_slot.l0 (d + 1) (sL l) x (i : Int) = some (l.any (fun y => y.r.i == x))
  | 0, i, h, hb => by
    unfold whilomref16_slot.l0
    rw [if_neg (by simp; omega), any_of_not (p := fun y => y.r.i == x) (fun j b hj => hb j b (by omega))]
  | d + 1, i, h, hb => by
    obtain ⟨s, hs⟩ := get_ex (l := l) (i := i) (by omega)
    unfold whilomref16_slot.l0
    rw [if_pos (by simp; omega), if_pos (by omega), rd_at hs]
    by_cases he : s.r.i = x
    · rw [if_pos (show (toS s).f0.f0 = x from he), any_of_at (p := fun y => y.r.i == x) hs (by simpa using he)]
    · rw [if_neg (show ¬ (toS s).f0.f0 = x from he), up_nat (by omega)]
      refine slot_loop l x hl d (i + 1) (by omega) fun j b hj hjb => ?_
      by_cases hji : j = i
      · subst hji; rw [hs] at hjb; injection hjb with hjb; subst hjb; simpa using he
      · exact hb j b (by omega) hjb
theorem slot_is (l : List Listed) (x : Int) (hl : l.length ≤ 1000000) : whilomref16_slot.f (l.length + 1) (sL l) x = some (l.any (fun y => y.r.i == x)) :=
  slot_loop l x hl l.length 0 (by omega) (fun j _ hj => by omega)
theorem id_loop (l : List Listed) (x : Int) (hl : l.length ≤ 1000000) : ∀ (d i : Nat), i + d = l.length → (∀ j b, j < i → l[j]? = some b → (b.o.id == x) = false) →
    whilomref16_ID.l0 (d + 1) (sL l) x (i : Int) = some (l.any (fun y => y.o.id == x))
  | 0, i, h, hb => by
    unfold whilomref16_ID.l0
    rw [if_neg (by simp; omega), any_of_not (p := fun y => y.o.id == x) (fun j b hj => hb j b (by omega))]
  | d + 1, i, h, hb => by
    obtain ⟨s, hs⟩ := get_ex (l := l) (i := i) (by omega)
    unfold whilomref16_ID.l0
    rw [if_pos (by simp; omega), if_pos (by omega), rd_at hs]
    by_cases he : s.o.id = x
    · rw [if_pos (show (toS s).f1.f2.f1 = x from he), any_of_at (p := fun y => y.o.id == x) hs (by simpa using he)]
    · rw [if_neg (show ¬ (toS s).f1.f2.f1 = x from he), up_nat (by omega)]
      refine id_loop l x hl d (i + 1) (by omega) fun j b hj hjb => ?_
      by_cases hji : j = i
      · subst hji; rw [hs] at hjb; injection hjb with hjb; subst hjb; simpa using he
      · exact hb j b (by omega) hjb
theorem id_is (l : List Listed) (x : Int) (hl : l.length ≤ 1000000) : whilomref16_ID.f (l.length + 1) (sL l) x = some (l.any (fun y => y.o.id == x)) :=
  id_loop l x hl l.length 0 (by omega) (fun j _ hj => by omega)

/-- One more, in its place. -/
def earlier (x : Listed) (y : Listed) : Bool := decide (y.o.time < x.o.time)
def addL (l : List Listed) (x : Listed) : List Listed := l.takeWhile (earlier x) ++ x :: l.dropWhile (earlier x)
theorem same_self (l : List Listed) (hl : l.length ≤ 1000000) : whilomref16_Same.f (l.length + 1) (sL l) (sL l) = some true := by
  have go : ∀ (d i : Nat), i + d = l.length → whilomref16_Same.l0 (d + 1) (sL l) (sL l) (i : Int) = some true := by
    intro d
    induction d with
    | zero =>
      intro i hi
      unfold whilomref16_Same.l0
      rw [if_neg (by simp; omega)]
    | succ d ih =>
      intro i hi
      unfold whilomref16_Same.l0
      rw [if_pos (by simp; omega), if_pos (by omega), if_pos (by simp; omega), if_neg (by simp), up_nat (by omega)]
      exact ih (i + 1) (by omega)
  unfold whilomref16_Same.f
  rw [if_pos rfl]
  exact go l.length 0 (by omega)
theorem ints_self (l : List Int) (hl : l.length ≤ 1000000) : whilomref01_Ints.f (l.length + 1) l l = some true := by
  have go : ∀ (d i : Nat), i + d = l.length → whilomref01_Ints.l0 (d + 1) l l (i : Int) = some true := by
    intro d
    induction d with
    | zero =>
      intro i hi
      unfold whilomref01_Ints.l0
      rw [if_neg (by omega)]
    | succ d ih =>
      intro i hi
      unfold whilomref01_Ints.l0
      rw [if_pos (by omega), if_pos (by omega), if_pos (by omega), if_pos rfl, up_nat (by omega)]
      exact ih (i + 1) (by omega)
  unfold whilomref01_Ints.f
  rw [if_pos rfl]
  exact go l.length 0 (by omega)
end Go.Proofs.Ytccfjjaljckinaa.Tag
/- The document's lists of operations: its printed calls, in plain words; its table in memory. No conditions. -/
namespace Go.Proofs.Ytccfjjaljckinaa.Tag
open Go.RowKit Go.Lib Go.Proofs.Ytccfjjaljckinaa.Mem Go.Proofs.Ytccfjjaljckinaa.IMap Go.Proofs.YtccfjjaljckinaaW.PrintWords Go.Proofs.Ytccfjjaljckinaa.PTagActs

/-- A list in memory, all of whose blocks are among S. -/
abbrev LRow (w : World) (S : Nat → Prop) (A : Option Addr) (l : List Listed) : Prop := Kd.F k34 w S A l.length (sL l)
abbrev IRow (w : World) (S : Nat → Prop) (A : Option Addr) (l : List Int) : Prop := Kd.F (Kd.int .i64) w S A l.length l

section
variable {w : World} {A : Option Addr} {c : Nat} {l : List Listed}
theorem refSlot_ (h : Kd.C k34 w A l.length (sL l)) (hc : l.length ≤ c) (hl : l.length ≤ 1000000) (x : Int) :
    Calls Try.prog 34 #[.slice A l.length c, .int .i64 x] w fun e w' => e = .returned (.bool (l.any (fun y => y.r.i == x))) ∧ ∃ k, w' = w.drewN k := by
  have := whilomref16_slot.calls (l.length + 1) A c (sL l) x _ w (by rw [List.length_map]; exact h) (by rw [List.length_map]; exact hc) (slot_is l x hl)
  rw [List.length_map] at this
  exact this.mono fun e w' ⟨a, b⟩ => ⟨a, b.out⟩
theorem refID_ (h : Kd.C k34 w A l.length (sL l)) (hc : l.length ≤ c) (hl : l.length ≤ 1000000) (x : Int) :
    Calls Try.prog 35 #[.slice A l.length c, .int .i64 x] w fun e w' => e = .returned (.bool (l.any (fun y => y.o.id == x))) ∧ ∃ k, w' = w.drewN k := by
  have := whilomref16_ID.calls (l.length + 1) A c (sL l) x _ w (by rw [List.length_map]; exact h) (by rw [List.length_map]; exact hc) (id_is l x hl)
  rw [List.length_map] at this
  exact this.mono fun e w' ⟨a, b⟩ => ⟨a, b.out⟩
end

/-- The document's table. -/
structure RTab where
  cap : Int
  serial : Int
  lasts : List Int
  l : List Listed
end Go.Proofs.Ytccfjjaljckinaa.Tag
/- The document's table in memory; may one more live? No conditions. -/
namespace Go.Proofs.Ytccfjjaljckinaa.Tag
open Go.RowKit Go.Lib Go.Proofs.Ytccfjjaljckinaa.Mem Go.Proofs.Ytccfjjaljckinaa.IMap Go.Proofs.YtccfjjaljckinaaW.PrintWords Go.Proofs.Ytccfjjaljckinaa.PTagActs

/-- The table's four cells. -/
abbrev rCells (r : RTab) (A1 : Option Addr) (c1 : Nat) (A2 : Option Addr) (c2 : Nat) : Array Value := #[.int .i64 r.cap, .int .i64 r.serial, .slice A1 r.lasts.length c1, .slice A2 r.l.length c2]
/-- The document's table at block D, all of whose rows' blocks are among S. -/
def RefAt (w : World) (S : Nat → Prop) (D : Nat) (r : RTab) : Prop :=
  ∃ A1 c1 A2 c2, Blk w D (rCells r A1 c1 A2 c2) 49 ∧ r.lasts.length ≤ c1 ∧ r.l.length ≤ c2 ∧ IRow w S A1 r.lasts ∧ LRow w S A2 r.l ∧ ∀ k, S k → k ≠ D ∧ k < w.heap.size
section
variable {w : World} {S : Nat → Prop} {D : Nat} {r : RTab}
theorem RefAt.keep {Z : Nat → Prop} {w' : World} (h : RefAt w S D r) (hc : Chg Z w w') (hD : ¬ Z D) (hs : ∀ k, S k → ¬ Z k) : RefAt w' S D r := by
  obtain ⟨A1, c1, A2, c2, hb, h1, h2, h3, h4, h5⟩ := h
  exact ⟨A1, c1, A2, c2, hb.keep hc hD, h1, h2, Kd.F_step h3 (fun k hk hl => hc.block k hl (hs k hk)), Kd.F_step h4 (fun k hk hl => hc.block k hl (hs k hk)), fun k hk => ⟨(h5 k hk).1, Nat.lt_of_lt_of_le (h5 k hk).2 hc.size⟩⟩
theorem RefAt.below {w' : World} (h : RefAt w S D r) (hb : Below w.heap.size w w') : RefAt w' S D r := h.keep (Chg.of_below (S := fun _ => False) hb) (fun h => h) (fun _ _ h => h)
theorem RefAt.lt (h : RefAt w S D r) : D < w.heap.size := by obtain ⟨_, _, _, _, hb, _⟩ := h; exact hb.lt
end

def rmay (r : RTab) (x : Int) : Int := if (r.l.length : Int) = r.cap then 10 else if 0 ≤ idxI (fun y => y.o.time == x) r.l then 11 else 0

end Go.Proofs.Ytccfjjaljckinaa.Tag
/- The document's table: one lives no more. No conditions. -/
namespace Go.Proofs.Ytccfjjaljckinaa.Tag
open Go.RowKit Go.Lib Go.Proofs.Ytccfjjaljckinaa.Mem Go.Proofs.Ytccfjjaljckinaa.IMap Go.Proofs.YtccfjjaljckinaaW.PrintWords Go.Proofs.Ytccfjjaljckinaa.PTagActs

theorem row_at {w : World} {A : Option Addr} {l : List Listed} (h : Kd.C k34 w A l.length (sL l)) {i : Nat} {x : Listed} (hx : l[i]? = some x) :
    ∃ ad, A = some ad ∧ (w.cell? (ad.add (i * 6)) = some (.int .i64 x.r.i) ∧ w.cell? ⟨(ad.add (i * 6)).block, (ad.add (i * 6)).off + 1, none⟩ = some (.int .i64 x.r.g) ∧
      w.cell? ⟨(ad.add (i * 6)).block, (ad.add (i * 6)).off + 2, none⟩ = some (.int .i64 x.o.time) ∧ w.cell? ⟨(ad.add (i * 6)).block, (ad.add (i * 6)).off + 3, none⟩ = some (.bool x.o.ins) ∧
      w.cell? ⟨(ad.add (i * 6)).block, (ad.add (i * 6)).off + 4, none⟩ = some (.int .i64 x.o.key) ∧ w.cell? ⟨(ad.add (i * 6)).block, (ad.add (i * 6)).off + 5, none⟩ = some (.int .i64 x.o.id)) := by
  have hlt := (List.getElem?_eq_some_iff.1 hx).1
  obtain ⟨ad, e, hc⟩ := at_T34 h (i : Int) (by omega) (by omega)
  rw [rd_at hx, Int.toNat_natCast] at hc
  exact ⟨ad, e, hc⟩

section
variable {w : World} {S : Nat → Prop} {D : Nat} {r : RTab}
end

def rdrop (r : RTab) (h : Ref) : TOp × Bool × RTab :=
  match r.l[(idxI (hasRef h) r.l).toNat]? with
  | some x => if 0 ≤ idxI (hasRef h) r.l then (x.o, true, { r with l := r.l.eraseIdx (idxI (hasRef h) r.l).toNat }) else (op0, false, r)
  | none => (op0, false, r)

end Go.Proofs.Ytccfjjaljckinaa.Tag
/- The document's table: one is moved. No conditions. -/
namespace Go.Proofs.Ytccfjjaljckinaa.Tag
open Go.RowKit Go.Lib Go.Proofs.Ytccfjjaljckinaa.Mem Go.Proofs.Ytccfjjaljckinaa.IMap Go.Proofs.YtccfjjaljckinaaW.PrintWords Go.Proofs.Ytccfjjaljckinaa.PTagActs

def rmove (r : RTab) (h : Ref) (x : Int) : Int × RTab :=
  match r.l[(idxI (hasRef h) r.l).toNat]? with
  | some y =>
    if 0 ≤ idxI (hasRef h) r.l then
      (if 0 ≤ idxI (fun y => y.o.time == x) r.l ∧ idxI (fun y => y.o.time == x) r.l ≠ idxI (hasRef h) r.l then (11, r)
       else (0, { r with l := addL (r.l.eraseIdx (idxI (hasRef h) r.l).toNat) ⟨y.r, { y.o with time := x }⟩ }))
    else (13, r)
  | none => (13, r)

end Go.Proofs.Ytccfjjaljckinaa.Tag
