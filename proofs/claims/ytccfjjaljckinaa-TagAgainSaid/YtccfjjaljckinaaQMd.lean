/- Tables and their document, part Md of this seat's texts: plain facts and walks. No conditions. -/
import Derived.Test.YtccfjjaljckinaaQMc
import Derived.Test.YtccfjjaljckinaaQRefQ
import Derived.Test.YtccfjjaljckinaaQRefP
import Derived.RegionTactic
/- The document's lists of operations: what its printed loops answer, in plain words. No conditions. -/
namespace Go.Proofs.Ytccfjjaljckinaa.Tag
open Go.RowKit Go.Lib Go.Proofs.Ytccfjjaljckinaa.Mem Go.Proofs.Ytccfjjaljckinaa.IMap Go.Proofs.YtccfjjaljckinaaW.PrintWords Go.Proofs.Ytccfjjaljckinaa.PTagActs
set_option linter.unusedSimpArgs false

def toS (l : Listed) : S34 := ⟨⟨l.r.i, l.r.g⟩, ⟨l.o.time, l.o.ins, ⟨l.o.key, l.o.id⟩⟩⟩
abbrev sL (l : List Listed) : List S34 := l.map toS

/-- The first place of those that are so, or -1. -/
def idxI (p : Listed → Bool) (l : List Listed) : Int := match l.findIdx? p with | some i => (i : Int) | none => -1
theorem idxI_none {p : Listed → Bool} {l : List Listed} (h : ∀ s ∈ l, p s = false) : idxI p l = -1 := by
  unfold idxI
  rw [List.findIdx?_eq_none_iff.2 h]
theorem idxI_at {p : Listed → Bool} {l : List Listed} {i : Nat} {s : Listed} (hs : l[i]? = some s) (hp : p s = true) (hb : ∀ j b, j < i → l[j]? = some b → p b = false) : idxI p l = i := by
  unfold idxI
  obtain ⟨hlt, he⟩ := List.getElem?_eq_some_iff.1 hs
  have : l.findIdx? p = some i := by
    rw [List.findIdx?_eq_some_iff_getElem]
    refine ⟨hlt, by rw [he]; exact hp, fun j hj => ?_⟩
    have := hb j l[j] hj (List.getElem?_eq_getElem (by omega))
    rw [this]; decide
  rw [this]
theorem idxI_cases (p : Listed → Bool) (l : List Listed) : (idxI p l = -1 ∧ ∀ s ∈ l, p s = false) ∨ ∃ (i : Nat) (s : Listed), idxI p l = i ∧ l[i]? = some s ∧ p s = true ∧ ∀ j b, j < i → l[j]? = some b → p b = false := by
  unfold idxI
  cases h : l.findIdx? p with
  | none => exact Or.inl ⟨rfl, List.findIdx?_eq_none_iff.1 h⟩
  | some i =>
    obtain ⟨hlt, hp, hb⟩ := List.findIdx?_eq_some_iff_getElem.1 h
    refine Or.inr ⟨i, l[i], rfl, List.getElem?_eq_getElem hlt, hp, fun j b hj hb' => ?_⟩
    obtain ⟨h1, h2⟩ := List.getElem?_eq_some_iff.1 hb'
    have := hb j hj
    rw [h2] at this
    simpa using this

theorem rd_at {l : List Listed} {i : Nat} {s : Listed} (hs : l[i]? = some s) : rd_T34 (sL l) (i : Int) = toS s := by
  unfold rd_T34
  rw [Int.toNat_natCast]
  simp [List.getD, hs]
theorem up_nat {i : Nat} (h : i ≤ 1000000) : wrap64 ((i : Int) + 1) = ((i + 1 : Nat) : Int) := by unfold wrap64; omega
theorem get_ex {l : List Listed} {i : Nat} (h : i < l.length) : ∃ s, l[i]? = some s := ⟨_, List.getElem?_eq_getElem h⟩

theorem at_loop (l : List Listed) (x : Int) (hl : l.length ≤ 1000000) : ∀ (d i : Nat), i + d = l.length → (∀ j b, j < i → l[j]? = some b → (b.o.time == x) = false) →
    whilomref16_At.l0 (d + 1) (sL l) x (i : Int) = some (idxI (fun y => y.o.time == x) l)
  | 0, i, h, hb => by
    unfold whilomref16_At.l0
    rw [if_neg (by simp; omega), idxI_none]
    intro s hs
    obtain ⟨j, hj⟩ := List.getElem?_of_mem hs
    exact hb j s (by have := (List.getElem?_eq_some_iff.1 hj).1; omega) hj
  | d + 1, i, h, hb => by
    obtain ⟨s, hs⟩ := get_ex (l := l) (i := i) (by omega)
    unfold whilomref16_At.l0
    rw [if_pos (by simp; omega), if_pos (by omega), rd_at hs]
    by_cases he : s.o.time = x
    · rw [if_pos (show (toS s).f1.f0 = x from he), idxI_at (p := fun y => y.o.time == x) hs (by simpa using he) hb]
    · rw [if_neg (show ¬ (toS s).f1.f0 = x from he), up_nat (by omega)]
      refine at_loop l x hl d (i + 1) (by omega) fun j b hj hjb => ?_
      by_cases hji : j = i
      · subst hji; rw [hs] at hjb; injection hjb with hjb; subst hjb; simpa using he
      · exact hb j b (by omega) hjb
theorem at_is (l : List Listed) (x : Int) (hl : l.length ≤ 1000000) : whilomref16_At.f (l.length + 1) (sL l) x = some (idxI (fun y => y.o.time == x) l) :=
  at_loop l x hl l.length 0 (by omega) (fun j _ hj => by omega)

def hasRef (r : Ref) (y : Listed) : Bool := y.r.i == r.i && y.r.g == r.g
theorem of_loop (l : List Listed) (r : Ref) (hl : l.length ≤ 1000000) : ∀ (d i : Nat), i + d = l.length → (∀ j b, j < i → l[j]? = some b → hasRef r b = false) →
    whilomref16_Of.l0 (d + 1) (sL l) (i : Int) r.i r.g = some (idxI (hasRef r) l)
  | 0, i, h, hb => by
    unfold whilomref16_Of.l0
    rw [if_neg (by simp; omega), idxI_none]
    intro s hs
    obtain ⟨j, hj⟩ := List.getElem?_of_mem hs
    exact hb j s (by have := (List.getElem?_eq_some_iff.1 hj).1; omega) hj
  | d + 1, i, h, hb => by
    obtain ⟨s, hs⟩ := get_ex (l := l) (i := i) (by omega)
    unfold whilomref16_Of.l0
    rw [if_pos (by simp; omega), if_pos (by omega), rd_at hs]
    by_cases he : hasRef r s = true
    · rw [if_pos (show ((toS s).f0.f0 == r.i && (toS s).f0.f1 == r.g) = true from he), idxI_at (p := hasRef r) hs he hb]
    · rw [if_neg (show ¬ ((toS s).f0.f0 == r.i && (toS s).f0.f1 == r.g) = true from he), up_nat (by omega)]
      refine of_loop l r hl d (i + 1) (by omega) fun j b hj hjb => ?_
      by_cases hji : j = i
      · subst hji; rw [hs] at hjb; injection hjb with hjb; subst hjb; simpa using he
      · exact hb j b (by omega) hjb
theorem of_is (l : List Listed) (r : Ref) (hl : l.length ≤ 1000000) : whilomref16_Of.f (l.length + 1) (sL l) r.i r.g = some (idxI (hasRef r) l) :=
  of_loop l r hl l.length 0 (by omega) (fun j _ hj => by omega)

theorem any_of_not {p : Listed → Bool} {l : List Listed} (h : ∀ j b, j < l.length → l[j]? = some b → p b = false) : l.any p = false := by
  rw [List.any_eq_false]
  intro s hs
  obtain ⟨j, hj⟩ := List.getElem?_of_mem hs
  rw [h j s (List.getElem?_eq_some_iff.1 hj).1 hj]; decide
theorem any_of_at {p : Listed → Bool} {l : List Listed} {i : Nat} {s : Listed} (hs : l[i]? = some s) (hp : p s = true) : l.any p = true := List.any_eq_true.2 ⟨s, List.mem_of_getElem? hs, hp⟩
theorem slot_loop (l : List Listed) (x : Int) (hl : l.length ≤ 1000000) : ∀ (d i : Nat), i + d = l.length → (∀ j b, j < i → l[j]? = some b → (b.r.i == x) = false) →
    whilomref16_slot.l0 (d + 1) (sL l) x (i : Int) = some (l.any (fun y => y.r.i == x))
  | 0, i, h, hb => by
    unfold whilomref16_slot.l0
    rw [if_neg (by simp; omega), any_of_not (p := fun y => y.r.i == x) (fun j b hj => hb j b (by omega))]
  | d + 1, i, h, hb => by
    obtain ⟨s, hs⟩ := get_ex (l := l) (i := i) (by omega)
    unfold whilomref16_slot.l0
    rw [if_pos (by simp; omega), if_pos (by omega), rd_at hs]
    by_cases he : s.r.i = x
    · rw [if_pos (show (toS s).f0.f0 = x from he), any_of_at (p := fun y => y.r.i == x) hs (by simpa using he)]
    · rw [if_neg (show ¬ (toS s).f0.f0 = x from he), up_nat (by omega)]
      refine slot_loop l x hl d (i + 1) (by omega) fun j b hj hjb => ?_
      by_cases hji : j = i
      · subst hji; rw [hs] at hjb; injection hjb with hjb; subst hjb; simpa using he
      · exact hb j b (by omega) hjb
theorem slot_is (l : List Listed) (x : Int) (hl : l.length ≤ 1000000) : whilomref16_slot.f (l.length + 1) (sL l) x = some (l.any (fun y => y.r.i == x)) :=
  slot_loop l x hl l.length 0 (by omega) (fun j _ hj => by omega)
theorem id_loop (l : List Listed) (x : Int) (hl : l.length ≤ 1000000) : ∀ (d i : Nat), i + d = l.length → (∀ j b, j < i → l[j]? = some b → (b.o.id == x) = false) →
    whilomref16_ID.l0 (d + 1) (sL l) x (i : Int) = some (l.any (fun y => y.o.id == x))
  | 0, i, h, hb => by
    unfold whilomref16_ID.l0
    rw [if_neg (by simp; omega), any_of_not (p := fun y => y.o.id == x) (fun j b hj => hb j b (by omega))]
  | d + 1, i, h, hb => by
    obtain ⟨s, hs⟩ := get_ex (l := l) (i := i) (by omega)
    unfold whilomref16_ID.l0
    rw [if_pos (by simp; omega), if_pos (by omega), rd_at hs]
    by_cases he : s.o.id = x
    · rw [if_pos (show (toS s).f1.f2.f1 = x from he), any_of_at (p := fun y => y.o.id == x) hs (by simpa using he)]
    · rw [if_neg (show ¬ (toS s).f1.f2.f1 = x from he), up_nat (by omega)]
      refine id_loop l x hl d (i + 1) (by omega) fun j b hj hjb => ?_
      by_cases hji : j = i
      · subst hji; rw [hs] at hjb; injection hjb with hjb; subst hjb; simpa using he
      · exact hb j b (by omega) hjb
theorem id_is (l : List Listed) (x : Int) (hl : l.length ≤ 1000000) : whilomref16_ID.f (l.length + 1) (sL l) x = some (l.any (fun y => y.o.id == x)) :=
  id_loop l x hl l.length 0 (by omega) (fun j _ hj => by omega)

/-- One more, in its place. -/
def earlier (x : Listed) (y : Listed) : Bool := decide (y.o.time < x.o.time)
def addL (l : List Listed) (x : Listed) : List Listed := l.takeWhile (earlier x) ++ x :: l.dropWhile (earlier x)
theorem split_at : ∀ {p : Listed → Bool} {l : List Listed} {i : Nat}, (∀ j b, j < i → l[j]? = some b → p b = true) → (∀ b, l[i]? = some b → p b = false) → i ≤ l.length → l.takeWhile p = l.take i ∧ l.dropWhile p = l.drop i
  | p, [], i, _, _, h => by simp at h; subst h; simp
  | p, x :: l, 0, _, h2, _ => by
    have := h2 x rfl
    simp [List.takeWhile_cons, List.dropWhile_cons, this]
  | p, x :: l, i + 1, h1, h2, h3 => by
    have h0 := h1 0 x (by omega) rfl
    have ih := split_at (p := p) (l := l) (i := i) (fun j b hj hb => h1 (j + 1) b (by omega) (by simpa using hb)) (fun b hb => h2 b (by simpa using hb)) (by simpa using h3)
    simp [List.takeWhile_cons, List.dropWhile_cons, h0, ih.1, ih.2]
theorem add_loop (l : List Listed) (x : Listed) (hl : l.length ≤ 1000000) : ∀ (d i : Nat), i + d = l.length → (∀ j b, j < i → l[j]? = some b → earlier x b = true) →
    whilomref16_Add.l0 (d + 1) (sL l) (i : Int) x.r.i x.r.g x.o.time x.o.ins x.o.key x.o.id = some (sL (addL l x))
  | 0, i, h, hb => by
    have hi : i = l.length := by omega
    subst hi
    obtain ⟨e1, e2⟩ := split_at (p := earlier x) (l := l) (i := l.length) hb (fun b hb' => by rw [List.getElem?_eq_none (Nat.le_refl _)] at hb'; cases hb') (Nat.le_refl _)
    unfold whilomref16_Add.l0 addL
    rw [if_neg (by simp), if_pos (by omega), if_pos (by simp), e1, e2]
    repeat first | rw [if_pos (by omega)] | simp only [Option.bind_some, Int.toNat_natCast, List.length_nil, List.nil_append, List.length_append, List.length_take, List.length_drop, List.length_map, List.length_singleton]
    simp [toS, ← List.map_take, ← List.map_drop]
  | d + 1, i, h, hb => by
    obtain ⟨s, hs⟩ := get_ex (l := l) (i := i) (by omega)
    unfold whilomref16_Add.l0
    rw [if_pos (by simp; omega), if_pos (by omega), rd_at hs]
    by_cases he : s.o.time < x.o.time
    · rw [if_pos (show (toS s).f1.f0 < x.o.time from he), up_nat (by omega)]
      refine add_loop l x hl d (i + 1) (by omega) fun j b hj hjb => ?_
      by_cases hji : j = i
      · subst hji; rw [hs] at hjb; injection hjb with hjb; subst hjb; exact decide_eq_true he
      · exact hb j b (by omega) hjb
    · obtain ⟨e1, e2⟩ := split_at (p := earlier x) (l := l) (i := i) hb (fun b hb' => by rw [hs] at hb'; injection hb' with hb'; subst hb'; exact decide_eq_false he) (by omega)
      unfold addL
      rw [if_neg (show ¬ (toS s).f1.f0 < x.o.time from he), if_pos (by simp; omega), e1, e2]
      repeat first | rw [if_pos (by omega)] | simp only [Option.bind_some, Int.toNat_natCast, List.length_nil, List.nil_append, List.length_append, List.length_take, List.length_drop, List.length_map, List.length_singleton]
      simp [toS, ← List.map_take, ← List.map_drop]
theorem add_is (l : List Listed) (x : Listed) (hl : l.length ≤ 1000000) : whilomref16_Add.f (l.length + 1) (sL l) x.r.i x.r.g x.o.time x.o.ins x.o.key x.o.id = some (sL (addL l x)) :=
  add_loop l x hl l.length 0 (by omega) (fun j _ hj => by omega)
theorem without_is (l : List Listed) (k : Nat) (hk : k < l.length) (hl : l.length ≤ 1000000) : whilomref16_Without.f (sL l) (k : Int) = some (sL (l.eraseIdx k)) := by
  unfold whilomref16_Without.f
  rw [if_pos (by omega), if_pos (by simp; omega), up_nat (by omega)]
  repeat first | rw [if_pos (by omega)] | simp only [Option.bind_some, Int.toNat_natCast, List.length_nil, List.nil_append, List.length_append, List.length_take, List.length_drop, List.length_map]
  rw [List.eraseIdx_eq_take_drop_succ]
  simp [← List.map_take, ← List.map_drop]
theorem same_self (l : List Listed) (hl : l.length ≤ 1000000) : whilomref16_Same.f (l.length + 1) (sL l) (sL l) = some true := by
  have go : ∀ (d i : Nat), i + d = l.length → whilomref16_Same.l0 (d + 1) (sL l) (sL l) (i : Int) = some true := by
    intro d
    induction d with
    | zero =>
      intro i hi
      unfold whilomref16_Same.l0
      rw [if_neg (by simp; omega)]
    | succ d ih =>
      intro i hi
      unfold whilomref16_Same.l0
      rw [if_pos (by simp; omega), if_pos (by omega), if_pos (by simp; omega), if_neg (by simp), up_nat (by omega)]
      exact ih (i + 1) (by omega)
  unfold whilomref16_Same.f
  rw [if_pos rfl]
  exact go l.length 0 (by omega)
theorem ints_self (l : List Int) (hl : l.length ≤ 1000000) : whilomref01_Ints.f (l.length + 1) l l = some true := by
  have go : ∀ (d i : Nat), i + d = l.length → whilomref01_Ints.l0 (d + 1) l l (i : Int) = some true := by
    intro d
    induction d with
    | zero =>
      intro i hi
      unfold whilomref01_Ints.l0
      rw [if_neg (by omega)]
    | succ d ih =>
      intro i hi
      unfold whilomref01_Ints.l0
      rw [if_pos (by omega), if_pos (by omega), if_pos (by omega), if_pos rfl, up_nat (by omega)]
      exact ih (i + 1) (by omega)
  unfold whilomref01_Ints.f
  rw [if_pos rfl]
  exact go l.length 0 (by omega)
end Go.Proofs.Ytccfjjaljckinaa.Tag
/- The document's lists of operations: its printed calls, in plain words; its table in memory. No conditions. -/
namespace Go.Proofs.Ytccfjjaljckinaa.Tag
open Go.RowKit Go.Lib Go.Proofs.Ytccfjjaljckinaa.Mem Go.Proofs.Ytccfjjaljckinaa.IMap Go.Proofs.YtccfjjaljckinaaW.PrintWords Go.Proofs.Ytccfjjaljckinaa.PTagActs

/-- A list in memory, all of whose blocks are among S. -/
abbrev LRow (w : World) (S : Nat → Prop) (A : Option Addr) (l : List Listed) : Prop := Kd.F k34 w S A l.length (sL l)
abbrev IRow (w : World) (S : Nat → Prop) (A : Option Addr) (l : List Int) : Prop := Kd.F (Kd.int .i64) w S A l.length l

section
variable {w : World} {A : Option Addr} {c : Nat} {l : List Listed}
theorem refAt_ (h : Kd.C k34 w A l.length (sL l)) (hc : l.length ≤ c) (hl : l.length ≤ 1000000) (x : Int) :
    Calls Try.prog 27 #[.slice A l.length c, .int .i64 x] w fun e w' => e = .returned (.int .i64 (idxI (fun y => y.o.time == x) l)) ∧ ∃ k, w' = w.drewN k := by
  have := whilomref16_At.calls (l.length + 1) A c (sL l) x _ w (by rw [List.length_map]; exact h) (by rw [List.length_map]; exact hc) (at_is l x hl)
  rw [List.length_map] at this
  exact this.mono fun e w' ⟨a, b⟩ => ⟨a, b.out⟩
theorem refOf_ (h : Kd.C k34 w A l.length (sL l)) (hc : l.length ≤ c) (hl : l.length ≤ 1000000) (r : Ref) :
    Calls Try.prog 26 #[.slice A l.length c, .agg #[.int .i64 r.i, .int .i64 r.g]] w fun e w' => e = .returned (.int .i64 (idxI (hasRef r) l)) ∧ Below w.heap.size w w' := by
  have := whilomref16_Of.calls (l.length + 1) A c (sL l) r.i r.g _ w (by rw [List.length_map]; exact h) (by rw [List.length_map]; exact hc) (of_is l r hl)
  rw [List.length_map] at this
  exact this.mono fun e w' ⟨a, b⟩ => ⟨a, b⟩
theorem refSlot_ (h : Kd.C k34 w A l.length (sL l)) (hc : l.length ≤ c) (hl : l.length ≤ 1000000) (x : Int) :
    Calls Try.prog 34 #[.slice A l.length c, .int .i64 x] w fun e w' => e = .returned (.bool (l.any (fun y => y.r.i == x))) ∧ ∃ k, w' = w.drewN k := by
  have := whilomref16_slot.calls (l.length + 1) A c (sL l) x _ w (by rw [List.length_map]; exact h) (by rw [List.length_map]; exact hc) (slot_is l x hl)
  rw [List.length_map] at this
  exact this.mono fun e w' ⟨a, b⟩ => ⟨a, b.out⟩
theorem refID_ (h : Kd.C k34 w A l.length (sL l)) (hc : l.length ≤ c) (hl : l.length ≤ 1000000) (x : Int) :
    Calls Try.prog 35 #[.slice A l.length c, .int .i64 x] w fun e w' => e = .returned (.bool (l.any (fun y => y.o.id == x))) ∧ ∃ k, w' = w.drewN k := by
  have := whilomref16_ID.calls (l.length + 1) A c (sL l) x _ w (by rw [List.length_map]; exact h) (by rw [List.length_map]; exact hc) (id_is l x hl)
  rw [List.length_map] at this
  exact this.mono fun e w' ⟨a, b⟩ => ⟨a, b.out⟩
/-- What a call made of its own. -/
theorem made_row {w' : World} {v : Value} {l' : List Listed} (h : Kd.R k34 34 w' w.heap.size (fun _ => True) v (sL l')) :
    ∃ A' c', v = .slice A' l'.length c' ∧ l'.length ≤ c' ∧ LRow w' (fun k => w.heap.size ≤ k ∧ k < w'.heap.size) A' l' := by
  obtain ⟨A', c', rfl, h1, h2⟩ := Kd.R_reads h
  have hF := Kd.F_mono (Kd.R_F (Kd.R_bound h)) (ok' := fun k => w.heap.size ≤ k ∧ k < w'.heap.size) (fun k hk => ⟨hk.2.1, hk.2.2.1⟩)
  rw [List.length_map] at h1 hF
  exact ⟨A', c', by rw [List.length_map], h1, hF⟩
theorem refAdd_ (h : Kd.C k34 w A l.length (sL l)) (hc : l.length ≤ c) (hl : l.length ≤ 1000000) (x : Listed) :
    Calls Try.prog 50 #[.slice A l.length c, aggL x] w fun e w' => ∃ A' c', e = .returned (.slice A' (addL l x).length c') ∧ (addL l x).length ≤ c' ∧ LRow w' (fun k => w.heap.size ≤ k ∧ k < w'.heap.size) A' (addL l x) ∧ Below w.heap.size w w' := by
  have := whilomref16_Add.calls (l.length + 1) A c (sL l) x.r.i x.r.g x.o.time x.o.ins x.o.key x.o.id _ w (by rw [List.length_map]; exact h) (by rw [List.length_map]; exact hc) (add_is l x hl)
  rw [List.length_map] at this
  refine this.mono ?_
  rintro e w' ⟨v, rfl, hR, hb⟩
  obtain ⟨A', c', rfl, h1, h2⟩ := made_row hR
  exact ⟨A', c', rfl, h1, h2, hb⟩
theorem refWithout_ (h : Kd.C k34 w A l.length (sL l)) (hc : l.length ≤ c) (hl : l.length ≤ 1000000) {k : Nat} (hk : k < l.length) :
    Calls Try.prog 51 #[.slice A l.length c, .int .i64 k] w fun e w' => ∃ A' c', e = .returned (.slice A' (l.eraseIdx k).length c') ∧ (l.eraseIdx k).length ≤ c' ∧ LRow w' (fun k => w.heap.size ≤ k ∧ k < w'.heap.size) A' (l.eraseIdx k) ∧ Below w.heap.size w w' := by
  have := whilomref16_Without.calls A c (sL l) k _ w (by rw [List.length_map]; exact h) (by rw [List.length_map]; exact hc) (without_is l k hk hl)
  rw [List.length_map] at this
  refine this.mono ?_
  rintro e w' ⟨v, rfl, hR, hb⟩
  obtain ⟨A', c', rfl, h1, h2⟩ := made_row hR
  exact ⟨A', c', rfl, h1, h2, hb⟩
end

/-- The document's table. -/
structure RTab where
  cap : Int
  serial : Int
  lasts : List Int
  l : List Listed
end Go.Proofs.Ytccfjjaljckinaa.Tag
/- The document's table in memory; may one more live? No conditions. -/
namespace Go.Proofs.Ytccfjjaljckinaa.Tag
open Go.RowKit Go.Lib Go.Proofs.Ytccfjjaljckinaa.Mem Go.Proofs.Ytccfjjaljckinaa.IMap Go.Proofs.YtccfjjaljckinaaW.PrintWords Go.Proofs.Ytccfjjaljckinaa.PTagActs

/-- The table's four cells. -/
abbrev rCells (r : RTab) (A1 : Option Addr) (c1 : Nat) (A2 : Option Addr) (c2 : Nat) : Array Value := #[.int .i64 r.cap, .int .i64 r.serial, .slice A1 r.lasts.length c1, .slice A2 r.l.length c2]
/-- The document's table at block D, all of whose rows' blocks are among S. -/
def RefAt (w : World) (S : Nat → Prop) (D : Nat) (r : RTab) : Prop :=
  ∃ A1 c1 A2 c2, Blk w D (rCells r A1 c1 A2 c2) 49 ∧ r.lasts.length ≤ c1 ∧ r.l.length ≤ c2 ∧ IRow w S A1 r.lasts ∧ LRow w S A2 r.l ∧ ∀ k, S k → k ≠ D ∧ k < w.heap.size
section
variable {w : World} {S : Nat → Prop} {D : Nat} {r : RTab}
theorem RefAt.keep {Z : Nat → Prop} {w' : World} (h : RefAt w S D r) (hc : Chg Z w w') (hD : ¬ Z D) (hs : ∀ k, S k → ¬ Z k) : RefAt w' S D r := by
  obtain ⟨A1, c1, A2, c2, hb, h1, h2, h3, h4, h5⟩ := h
  exact ⟨A1, c1, A2, c2, hb.keep hc hD, h1, h2, Kd.F_step h3 (fun k hk hl => hc.block k hl (hs k hk)), Kd.F_step h4 (fun k hk hl => hc.block k hl (hs k hk)), fun k hk => ⟨(h5 k hk).1, Nat.lt_of_lt_of_le (h5 k hk).2 hc.size⟩⟩
theorem RefAt.below {w' : World} (h : RefAt w S D r) (hb : Below w.heap.size w w') : RefAt w' S D r := h.keep (Chg.of_below (S := fun _ => False) hb) (fun h => h) (fun _ _ h => h)
theorem RefAt.lt (h : RefAt w S D r) : D < w.heap.size := by obtain ⟨_, _, _, _, hb, _⟩ := h; exact hb.lt
end

def rmay (r : RTab) (x : Int) : Int := if (r.l.length : Int) = r.cap then 10 else if 0 ≤ idxI (fun y => y.o.time == x) r.l then 11 else 0

set_option maxRecDepth 100000 in
set_option maxHeartbeats 4000000 in
theorem rmayAt {w : World} {S : Nat → Prop} {D : Nat} {r : RTab} (h : RefAt w S D r) (hl : r.l.length ≤ 1000000) (x : Int) :
    Calls Try.prog 49 #[.pointer (some ⟨D, 0, none⟩), .int .i64 x] w fun e w' => e = .returned (.int .i64 (rmay r x)) ∧ Below w.heap.size w w' := by
  obtain ⟨A1, c1, A2, c2, hb, h1, h2, h3, h4, h5⟩ := h
  have m0 : w.cell? ⟨D, 0, none⟩ = some (.int .i64 r.cap) := hb.cell (j := 0) rfl
  have m3 : w.cell? ⟨D, 3, none⟩ = some (.slice A2 r.l.length c2) := hb.cell (j := 3) rfl
  have H4 := Lib.hid h4
  have H2 := Lib.hid h2
  have HL := Lib.hid hl
  have HLt := Lib.hid hb.lt
  clear hb h1 h2 h3 h4 h5 hl
  unfold rmay
  by_cases hfull : (r.l.length : Int) = r.cap
  · rw [if_pos hfull]
    have t1 : ((r.l.length : Int) == r.cap) = true := beq_iff_eq.2 hfull
    go_enter Try.func49, Try.ntmps49
    go_wp2_with fail
    go_quiet (fail)
    go_wp2_with fail
    go_ret
    exact ⟨rfl, bdn (Below.refl _ _) _⟩
  · rw [if_neg hfull]
    have t1 : ((r.l.length : Int) == r.cap) = false := beq_eq_false_iff_ne.2 hfull
    clear hfull
    have fin : ∀ (E : Int), (if 0 ≤ idxI (fun y => y.o.time == x) r.l then (11 : Int) else 0) = E → Calls Try.prog 49 #[.pointer (some ⟨D, 0, none⟩), .int .i64 x] w fun e w' => e = .returned (.int .i64 E) ∧ Below w.heap.size w w' := by
      intro E hE
      go_enter Try.func49, Try.ntmps49
      go_wp2_with fail
      go_quiet (fail)
      refine gwE (fun wb hwb => ?_)
      have HB : Hid (Below w.heap.size w wb) := Lib.hid (by rw [← hwb]; exact bdn (Below.refl _ _) _)
      have m0 := cell_of m0 HB.out HLt.out
      have m3 := cell_of m3 HB.out HLt.out
      have H4 := Lib.hid (Kd.F_below H4.out HB.out)
      clear hwb
      go_wp2_with fail
      refine (refAt_ (Kd.F_now H4.out) H2.out HL.out x).mono ?_
      rintro e w' ⟨rfl, q, rfl⟩
      generalize idxI (fun y => y.o.time == x) r.l = I at *
      by_cases hI : 0 ≤ I
      · rw [if_pos hI] at hE
        subst hE
        go_wp2_with fail
        go_ret
        exact ⟨rfl, bdn HB.out q⟩
      · rw [if_neg hI] at hE
        subst hE
        go_wp2_with fail
        go_ret
        exact ⟨rfl, bdn HB.out q⟩
    exact fin _ rfl
end Go.Proofs.Ytccfjjaljckinaa.Tag
/- The document's table: one lives no more. No conditions. -/
namespace Go.Proofs.Ytccfjjaljckinaa.Tag
open Go.RowKit Go.Lib Go.Proofs.Ytccfjjaljckinaa.Mem Go.Proofs.Ytccfjjaljckinaa.IMap Go.Proofs.YtccfjjaljckinaaW.PrintWords Go.Proofs.Ytccfjjaljckinaa.PTagActs

theorem row_at {w : World} {A : Option Addr} {l : List Listed} (h : Kd.C k34 w A l.length (sL l)) {i : Nat} {x : Listed} (hx : l[i]? = some x) :
    ∃ ad, A = some ad ∧ (w.cell? (ad.add (i * 6)) = some (.int .i64 x.r.i) ∧ w.cell? ⟨(ad.add (i * 6)).block, (ad.add (i * 6)).off + 1, none⟩ = some (.int .i64 x.r.g) ∧
      w.cell? ⟨(ad.add (i * 6)).block, (ad.add (i * 6)).off + 2, none⟩ = some (.int .i64 x.o.time) ∧ w.cell? ⟨(ad.add (i * 6)).block, (ad.add (i * 6)).off + 3, none⟩ = some (.bool x.o.ins) ∧
      w.cell? ⟨(ad.add (i * 6)).block, (ad.add (i * 6)).off + 4, none⟩ = some (.int .i64 x.o.key) ∧ w.cell? ⟨(ad.add (i * 6)).block, (ad.add (i * 6)).off + 5, none⟩ = some (.int .i64 x.o.id)) := by
  have hlt := (List.getElem?_eq_some_iff.1 hx).1
  obtain ⟨ad, e, hc⟩ := at_T34 h (i : Int) (by omega) (by omega)
  rw [rd_at hx, Int.toNat_natCast] at hc
  exact ⟨ad, e, hc⟩

/-- S, and what is new since w. -/
def Wide (S : Nat → Prop) (w : World) (k : Nat) : Prop := S k ∨ w.heap.size ≤ k
section
variable {w : World} {S : Nat → Prop} {D : Nat} {r : RTab}
/-- The list turned. -/
theorem RefAt.setL {A1 A2 A' : Option Addr} {c1 c2 c' : Nat} {l' : List Listed} {S' : Nat → Prop} (hb : Blk w D (rCells r A1 c1 A2 c2) 49) (h1 : r.lasts.length ≤ c1) (h3 : IRow w S A1 r.lasts) (hS : ∀ k, S k → k ≠ D ∧ k < w.heap.size)
    (h2 : l'.length ≤ c') (h4 : LRow w S' A' l') (hS' : ∀ k, S' k → k ≠ D ∧ k < w.heap.size) :
    RefAt (w.setCell ⟨D, 3, none⟩ (.slice A' l'.length c')) (fun k => S k ∨ S' k) D { r with l := l' } := by
  refine ⟨A1, c1, A', c', hb.set 3 _, h1, h2, Kd.F_far (Kd.F_mono h3 (fun k hk => Or.inl hk)) (fun k hk => ?_) _, Kd.F_far (Kd.F_mono h4 (fun k hk => Or.inr hk)) (fun k hk => ?_) _, fun k hk => ?_⟩
  · rcases hk with hk | hk
    · exact (hS k hk).1
    · exact (hS' k hk).1
  · rcases hk with hk | hk
    · exact (hS k hk).1
    · exact (hS' k hk).1
  · have e : (w.setCell ⟨D, 3, none⟩ (.slice A' l'.length c')).heap.size = w.heap.size := by simp [World.setCell]
    rw [e]
    rcases hk with hk | hk
    · exact hS k hk
    · exact hS' k hk
end

theorem chg4 {S : Nat → Prop} {w w1 : World} (h : Chg S w w1) {b : Nat} (hb : b < w.heap.size → S b) (u0 u1 u2 u3 : Value) :
    Chg S w ((((w1.setCell ⟨b, 0, none⟩ u0).setCell ⟨b, 1, none⟩ u1).setCell ⟨b, 2, none⟩ u2).setCell ⟨b, 3, none⟩ u3) :=
  Chg.set (p := ⟨b, 3, none⟩) (Chg.set (p := ⟨b, 2, none⟩) (Chg.set (p := ⟨b, 1, none⟩) (Chg.set (p := ⟨b, 0, none⟩) h hb u0) hb u1) hb u2) hb u3
def rdrop (r : RTab) (h : Ref) : TOp × Bool × RTab :=
  match r.l[(idxI (hasRef h) r.l).toNat]? with
  | some x => if 0 ≤ idxI (hasRef h) r.l then (x.o, true, { r with l := r.l.eraseIdx (idxI (hasRef h) r.l).toNat }) else (op0, false, r)
  | none => (op0, false, r)

set_option maxRecDepth 100000 in
set_option maxHeartbeats 8000000 in
theorem rdrop_none {w : World} {S : Nat → Prop} {D : Nat} {r : RTab} (h : RefAt w S D r) (hl : r.l.length ≤ 1000000) (hr : Ref) (hn : idxI (hasRef hr) r.l = -1) :
    Calls Try.prog 39 #[.pointer (some ⟨D, 0, none⟩), .agg #[.int .i64 hr.i, .int .i64 hr.g]] w fun e w' => e = .returned (.tuple #[aggOp op0, .bool false]) ∧ Below w.heap.size w w' := by
  obtain ⟨A1, c1, A2, c2, hb, h1, h2, h3, h4, h5⟩ := h
  have m3 : w.cell? ⟨D, 3, none⟩ = some (.slice A2 r.l.length c2) := hb.cell (j := 3) rfl
  have H4 := Lib.hid h4
  have H2 := Lib.hid h2
  have HL := Lib.hid hl
  have HLt := Lib.hid hb.lt
  have HN := Lib.hid hn
  have hu32 := Try.underlying32
  have hu30 := Try.underlying30
  have hu28 := Try.underlying28
  clear hb h1 h2 h3 h4 h5 hl hn
  go_enter Try.func39, Try.ntmps39
  go_wp2_with fail
  refine gwP (fun wa hwa => ?_)
  have HBa : Hid (Below w.heap.size w wa) := Lib.hid (by rw [← hwa]; exact ((Below.refl _ _).alloc (Nat.le_refl _) _).alloc (by simp) _)
  have HX : Hid (Blk wa w.heap.size #[.int .i64 hr.i, .int .i64 hr.g] 28) := Lib.hid (by rw [← hwa]; exact (Blk.new _ _ _).alloc _)
  have HO : Hid (Blk wa (w.heap.size + 1) #[.int .i64 0, .bool false, .int .i64 0, .int .i64 0] 32) := Lib.hid (by rw [← hwa]; exact Blk.at_ (by simp) _ _)
  clear hwa
  have m3 := cell_of m3 HBa.out HLt.out
  have x0 := HX.out.cell (j := 0) rfl
  have x1 := HX.out.cell (j := 1) rfl
  have CC : Hid (Calls Try.prog 26 #[.slice A2 r.l.length c2, .agg #[.int .i64 hr.i, .int .i64 hr.g]] wa.drew fun e w' => e = .returned (.int .i64 (-1)) ∧ Below wa.heap.size wa w') := Lib.hid (by
    have := refOf_ (Kd.F_now (Kd.F_drew (Kd.F_below H4.out HBa.out))) H2.out HL.out hr
    rw [HN.out] at this
    exact this.mono (fun e w' ⟨a, b⟩ => ⟨a, (Below.refl _ _).drew.trans b⟩))
  go_region_with (go_at_call 26; refine CC.out.mono ?_; rintro e w' ⟨rfl, hb⟩; have HB := Lib.hid hb; clear hb)
  all_goals
    refine gwE (fun wb hwb => ?_)
    have HBb : Hid (Below wa.heap.size wa wb) := Lib.hid (by rw [← hwb]; exact HB.out)
    have HOb := Lib.hid (HO.out.below HBb.out)
    have HBw : Hid (Below w.heap.size w wb) := Lib.hid (btrans HBa.out HBb.out)
    clear hwb HB CC x0 x1 m3 HX HO HBa HBb
    have y0 := HOb.out.cell (j := 0) rfl
    have y1 := HOb.out.cell (j := 1) rfl
    have y2 := HOb.out.cell (j := 2) rfl
    have y3 := HOb.out.cell (j := 3) rfl
    have f0 := HOb.out.free 0
    have f1 := HOb.out.free 1
    have f2 := HOb.out.free 2
    have f3 := HOb.out.free 3
    go_wp2_with fail
    refine bodyPost_ret (results_ct rfl _ _ (w.heap.size + 1) 32 _ (0, 0) _ rfl ((((HOb.out.set 0 (.int .i64 0)).set 1 (.bool false)).set 2 (.int .i64 0)).set 3 (.int .i64 0)) Try.underlying32 rfl (by kernel_rfl)) rfl ?_
    exact ⟨rfl, (((HBw.out.setCell (by simp) _).setCell (by simp) _).setCell (by simp) _).setCell (by simp) _⟩

set_option maxRecDepth 100000 in
set_option maxHeartbeats 8000000 in
theorem rdrop_some {w : World} {S : Nat → Prop} {D : Nat} {r : RTab} (h : RefAt w S D r) (hl : r.l.length ≤ 1000000) (hr : Ref) {i : Nat} {x : Listed} (hn : idxI (hasRef hr) r.l = i) (hx : r.l[i]? = some x) :
    Calls Try.prog 39 #[.pointer (some ⟨D, 0, none⟩), .agg #[.int .i64 hr.i, .int .i64 hr.g]] w fun e w' => e = .returned (.tuple #[aggOp x.o, .bool true]) ∧
      (∃ S', RefAt w' S' D { r with l := r.l.eraseIdx i } ∧ ∀ k, S' k → Wide S w k) ∧ Chg (fun k => k = D) w w' := by
  obtain ⟨A1, c1, A2, c2, hb, h1, h2, h3, h4, h5⟩ := h
  have hlt := (List.getElem?_eq_some_iff.1 hx).1
  have m3 : w.cell? ⟨D, 3, none⟩ = some (.slice A2 r.l.length c2) := hb.cell (j := 3) rfl
  have HD := Lib.hid hb
  have H1 := Lib.hid h1
  have H3 := Lib.hid h3
  have H4 := Lib.hid h4
  have H5 := Lib.hid h5
  have H2 := Lib.hid h2
  have HL := Lib.hid hl
  have HLt := Lib.hid hb.lt
  have HN := Lib.hid hn
  have HX0 := Lib.hid hx
  have HI := Lib.hid hlt
  have hu32 := Try.underlying32
  have hu34 := Try.underlying34
  have hu30 := Try.underlying30
  have hu28 := Try.underlying28
  clear hb h1 h2 h3 h4 h5 hl hn hx hlt
  go_enter Try.func39, Try.ntmps39
  go_wp2_with fail
  refine gwP (fun wa hwa => ?_)
  have HBa : Hid (Below w.heap.size w wa) := Lib.hid (by rw [← hwa]; exact ((Below.refl _ _).alloc (Nat.le_refl _) _).alloc (by simp) _)
  have HX : Hid (Blk wa w.heap.size #[.int .i64 hr.i, .int .i64 hr.g] 28) := Lib.hid (by rw [← hwa]; exact (Blk.new _ _ _).alloc _)
  have HO : Hid (Blk wa (w.heap.size + 1) #[.int .i64 0, .bool false, .int .i64 0, .int .i64 0] 32) := Lib.hid (by rw [← hwa]; exact Blk.at_ (by simp) _ _)
  clear hwa
  have m3 := cell_of m3 HBa.out HLt.out
  have x0 := HX.out.cell (j := 0) rfl
  have x1 := HX.out.cell (j := 1) rfl
  have CC : Hid (Calls Try.prog 26 #[.slice A2 r.l.length c2, .agg #[.int .i64 hr.i, .int .i64 hr.g]] wa.drew fun e w' => e = .returned (.int .i64 i) ∧ Below wa.heap.size wa w') := Lib.hid (by
    have := refOf_ (Kd.F_now (Kd.F_drew (Kd.F_below H4.out HBa.out))) H2.out HL.out hr
    rw [HN.out] at this
    exact this.mono (fun e w' ⟨a, b⟩ => ⟨a, (Below.refl _ _).drew.trans b⟩))
  go_region_with (go_at_call 26; refine CC.out.mono ?_; rintro e w' ⟨rfl, hb⟩; have HB := Lib.hid hb; clear hb)
  all_goals
    refine gwE (fun wb hwb => ?_)
    have HBb : Hid (Below wa.heap.size wa wb) := Lib.hid (by rw [← hwb]; exact HB.out)
    have HOb := Lib.hid (HO.out.below HBb.out)
    have HBw : Hid (Below w.heap.size w wb) := Lib.hid (btrans HBa.out HBb.out)
    clear hwb HB CC x0 x1 m3 HX HO HBa HBb
    have HDb := Lib.hid (HD.out.below HBw.out)
    have H3b := Lib.hid (Kd.F_below H3.out HBw.out)
    have H4b := Lib.hid (Kd.F_below H4.out HBw.out)
    have zb := HOb.out.lt
    have m3 : wb.cell? ⟨D, 3, none⟩ = some (.slice A2 r.l.length c2) := HDb.out.cell (j := 3) rfl
    obtain ⟨ad, rfl, e0, e1, e2, e3, e4, e5⟩ := row_at (Kd.F_now H4b.out) HX0.out
    have hi0 : (0 : Int) ≤ i := by omega
    have hiN : (i : Int) < r.l.length := by have := HI.out; omega
    have ei : (i : Int).toNat = i := by omega
    have zl := HLt.out
    have zw : w.heap.size ≤ wb.heap.size := HBw.out.size
    have q1 : D ≠ wb.heap.size := by omega
    have q2 : wb.heap.size ≠ D := by omega
    have m3a : (wb.alloc (Obj.cells #[.int .i64 x.o.time, .bool x.o.ins, .int .i64 x.o.key, .int .i64 x.o.id] 32)).cell? ⟨D, 3, none⟩ = some (.slice (some ad) r.l.length c2) := (HDb.out.alloc _).cell (j := 3) rfl
    go_wp2_with fail
    refine gw (fun wc hwc => ?_)
    have HBc : Hid (Below wb.heap.size wb wc) := Lib.hid (by rw [← hwc]; exact (Below.refl _ _).alloc (Nat.le_refl _) _)
    have HY : Hid (Blk wc wb.heap.size #[.int .i64 x.o.time, .bool x.o.ins, .int .i64 x.o.key, .int .i64 x.o.id] 32) := Lib.hid (by rw [← hwc]; exact Blk.new _ _ _)
    clear hwc m3 m3a e0 e1 e2 e3 e4 e5 hi0 hiN ei
    refine (refWithout_ (Kd.F_now (Kd.F_below H4b.out HBc.out)) H2.out HL.out HI.out).mono ?_
    rintro e w5 ⟨A', c', rfl, hc', hrow, hb5⟩
    have HC' := Lib.hid hc'
    have HRow := Lib.hid hrow
    have HB5 : Hid (Below wb.heap.size wb w5) := Lib.hid (btrans HBc.out hb5)
    have HY5 := Lib.hid (HY.out.below hb5)
    have HBw5 : Hid (Below w.heap.size w w5) := Lib.hid (btrans HBw.out HB5.out)
    have HO5 := Lib.hid (HOb.out.below HB5.out)
    have HD5 := Lib.hid (HDb.out.below HB5.out)
    have H35 := Lib.hid (Kd.F_below H3b.out HB5.out)
    have zc := HBc.out.size
    clear hc' hrow hb5 HBc HY HOb HDb H3b H4b HB5 HBw
    have m3 : w5.cell? ⟨D, 3, none⟩ = some (.slice (some ad) r.l.length c2) := HD5.out.cell (j := 3) rfl
    have n3 := HD5.out.free 3
    have y0 := HO5.out.cell (j := 0) rfl
    have y1 := HO5.out.cell (j := 1) rfl
    have y2 := HO5.out.cell (j := 2) rfl
    have y3 := HO5.out.cell (j := 3) rfl
    have f0 := HO5.out.free 0
    have f1 := HO5.out.free 1
    have f2 := HO5.out.free 2
    have f3 := HO5.out.free 3
    have z0 := HY5.out.cell (j := 0) rfl
    have z1 := HY5.out.cell (j := 1) rfl
    have z2 := HY5.out.cell (j := 2) rfl
    have z3 := HY5.out.cell (j := 3) rfl
    have q3 : w.heap.size + 1 ≠ D := by omega
    have q4 : D ≠ w.heap.size + 1 := by omega
    go_wp2_with fail
    refine bodyPost_ret (results_ct rfl _ _ (w.heap.size + 1) 32 _ (0, 0) _ rfl (((((HO5.out.far q3 _).set 0 (.int .i64 x.o.time)).set 1 (.bool x.o.ins)).set 2 (.int .i64 x.o.key)).set 3 (.int .i64 x.o.id)) Try.underlying32 rfl (by kernel_rfl)) rfl ?_
    have z5 := HBw5.out.size
    have hn : ¬ w.heap.size + 1 < w.heap.size := by omega
    have R1 := RefAt.setL (r := r) (S' := fun k => wc.heap.size ≤ k ∧ k < w5.heap.size) HD5.out H1.out H35.out (fun k hk => ⟨(H5.out k hk).1, by have := (H5.out k hk).2; omega⟩) HC'.out HRow.out (fun k hk => ⟨by have := hk.1; omega, hk.2⟩)
    have C0 : Chg (fun k => k = D) w (w5.setCell ⟨D, 3, none⟩ (.slice A' (r.l.eraseIdx i).length c')) := Chg.set (S := fun k => k = D) (p := ⟨D, 3, none⟩) (Chg.of_below HBw5.out) (fun _ => rfl) _
    refine ⟨rfl, ⟨_, R1.keep (Z := fun k => k = w.heap.size + 1) (chg4 (S := fun k => k = w.heap.size + 1) (b := w.heap.size + 1) (Chg.refl _ _) (fun _ => rfl) _ _ _ _) (fun e => q3 e.symm) (fun k hk e => ?_), fun k hk => ?_⟩,
      chg4 (b := w.heap.size + 1) C0 (fun h => absurd h hn) _ _ _ _⟩
    · rcases hk with hk | hk
      · have := (H5.out k hk).2; omega
      · have := hk.1; omega
    · rcases hk with hk | hk
      · exact Or.inl hk
      · exact Or.inr (by have := hk.1; omega)
end Go.Proofs.Ytccfjjaljckinaa.Tag
/- The document's table: one is moved. No conditions. -/
namespace Go.Proofs.Ytccfjjaljckinaa.Tag
open Go.RowKit Go.Lib Go.Proofs.Ytccfjjaljckinaa.Mem Go.Proofs.Ytccfjjaljckinaa.IMap Go.Proofs.YtccfjjaljckinaaW.PrintWords Go.Proofs.Ytccfjjaljckinaa.PTagActs

theorem rdropAt {w : World} {S : Nat → Prop} {D : Nat} {r : RTab} (h : RefAt w S D r) (hl : r.l.length ≤ 1000000) (hr : Ref) :
    Calls Try.prog 39 #[.pointer (some ⟨D, 0, none⟩), .agg #[.int .i64 hr.i, .int .i64 hr.g]] w fun e w' => e = .returned (.tuple #[aggOp (rdrop r hr).1, .bool (rdrop r hr).2.1]) ∧
      (∃ S', RefAt w' S' D (rdrop r hr).2.2 ∧ ∀ k, S' k → Wide S w k) ∧ Chg (fun k => k = D) w w' := by
  rcases idxI_cases (hasRef hr) r.l with ⟨hn, _⟩ | ⟨i, x, hn, hx, _⟩
  · have e : rdrop r hr = (op0, false, r) := by
      unfold rdrop
      rw [hn]
      split
      · rw [if_neg (by omega)]
      · rfl
    rw [e]
    refine (rdrop_none h hl hr hn).mono ?_
    rintro e w' ⟨rfl, hb⟩
    exact ⟨rfl, ⟨S, h.below hb, fun k hk => Or.inl hk⟩, Chg.of_below hb⟩
  · have e : rdrop r hr = (x.o, true, { r with l := r.l.eraseIdx i }) := by
      unfold rdrop
      rw [hn, Int.toNat_natCast, hx]
      simp
    rw [e]
    exact rdrop_some h hl hr hn hx

def rmove (r : RTab) (h : Ref) (x : Int) : Int × RTab :=
  match r.l[(idxI (hasRef h) r.l).toNat]? with
  | some y =>
    if 0 ≤ idxI (hasRef h) r.l then
      (if 0 ≤ idxI (fun y => y.o.time == x) r.l ∧ idxI (fun y => y.o.time == x) r.l ≠ idxI (hasRef h) r.l then (11, r)
       else (0, { r with l := addL (r.l.eraseIdx (idxI (hasRef h) r.l).toNat) ⟨y.r, { y.o with time := x }⟩ }))
    else (13, r)
  | none => (13, r)

set_option maxRecDepth 100000 in
set_option maxHeartbeats 8000000 in
theorem rmove_none {w : World} {S : Nat → Prop} {D : Nat} {r : RTab} (h : RefAt w S D r) (hl : r.l.length ≤ 1000000) (hr : Ref) (x : Int) (hn : idxI (hasRef hr) r.l = -1) :
    Calls Try.prog 41 #[.pointer (some ⟨D, 0, none⟩), .agg #[.int .i64 hr.i, .int .i64 hr.g], .int .i64 x] w fun e w' => e = .returned (.int .i64 13) ∧ Below w.heap.size w w' := by
  obtain ⟨A1, c1, A2, c2, hb, h1, h2, h3, h4, h5⟩ := h
  have m3 : w.cell? ⟨D, 3, none⟩ = some (.slice A2 r.l.length c2) := hb.cell (j := 3) rfl
  have H4 := Lib.hid h4
  have H2 := Lib.hid h2
  have HL := Lib.hid hl
  have HLt := Lib.hid hb.lt
  have HN := Lib.hid hn
  have hu28 := Try.underlying28
  clear hb h1 h2 h3 h4 h5 hl hn
  go_enter Try.func41, Try.ntmps41
  go_wp2_with fail
  refine gwP (fun wa hwa => ?_)
  have HBa : Hid (Below w.heap.size w wa) := Lib.hid (by rw [← hwa]; exact (Below.refl _ _).alloc (Nat.le_refl _) _)
  have HX : Hid (Blk wa w.heap.size #[.int .i64 hr.i, .int .i64 hr.g] 28) := Lib.hid (by rw [← hwa]; exact Blk.new _ _ _)
  clear hwa
  have m3 := cell_of m3 HBa.out HLt.out
  have x0 := HX.out.cell (j := 0) rfl
  have x1 := HX.out.cell (j := 1) rfl
  have CC : Hid (Calls Try.prog 26 #[.slice A2 r.l.length c2, .agg #[.int .i64 hr.i, .int .i64 hr.g]] wa.drew fun e w' => e = .returned (.int .i64 (-1)) ∧ Below wa.heap.size wa w') := Lib.hid (by
    have := refOf_ (Kd.F_now (Kd.F_drew (Kd.F_below H4.out HBa.out))) H2.out HL.out hr
    rw [HN.out] at this
    exact this.mono (fun e w' ⟨a, b⟩ => ⟨a, (Below.refl _ _).drew.trans b⟩))
  go_region_with (go_at_call 26; refine CC.out.mono ?_; rintro e w' ⟨rfl, hb⟩; have HB := Lib.hid hb; clear hb)
  all_goals
    refine gwE (fun wb hwb => ?_)
    have HBw : Hid (Below w.heap.size w wb) := Lib.hid (by rw [← hwb]; exact btrans HBa.out HB.out)
    clear hwb HB CC x0 x1 m3 HX HBa
    go_wp2_with fail
    go_ret
    exact ⟨rfl, HBw.out⟩

set_option maxRecDepth 100000 in
set_option maxHeartbeats 8000000 in
theorem rmove_some {w : World} {S : Nat → Prop} {D : Nat} {r : RTab} (h : RefAt w S D r) (hl : r.l.length ≤ 1000000) (hr : Ref) (t : Int) {i : Nat} {x : Listed} (hn : idxI (hasRef hr) r.l = i) (hx : r.l[i]? = some x) :
    Calls Try.prog 41 #[.pointer (some ⟨D, 0, none⟩), .agg #[.int .i64 hr.i, .int .i64 hr.g], .int .i64 t] w fun e w' =>
      e = .returned (.int .i64 (if 0 ≤ idxI (fun y => y.o.time == t) r.l ∧ idxI (fun y => y.o.time == t) r.l ≠ i then 11 else 0)) ∧
      (∃ S', RefAt w' S' D (if 0 ≤ idxI (fun y => y.o.time == t) r.l ∧ idxI (fun y => y.o.time == t) r.l ≠ i then r else { r with l := addL (r.l.eraseIdx i) ⟨x.r, { x.o with time := t }⟩ }) ∧ ∀ k, S' k → Wide S w k) ∧ Chg (fun k => k = D) w w' := by
  have hlt := (List.getElem?_eq_some_iff.1 hx).1
  have hR := h
  obtain ⟨A1, c1, A2, c2, hb, h1, h2, h3, h4, h5⟩ := h
  have m3 : w.cell? ⟨D, 3, none⟩ = some (.slice A2 r.l.length c2) := hb.cell (j := 3) rfl
  have HR := Lib.hid hR
  have HD := Lib.hid hb
  have H1 := Lib.hid h1
  have H3 := Lib.hid h3
  have H4 := Lib.hid h4
  have H5 := Lib.hid h5
  have H2 := Lib.hid h2
  have HL := Lib.hid hl
  have HLt := Lib.hid hb.lt
  have HN := Lib.hid hn
  have HX0 := Lib.hid hx
  have HI := Lib.hid hlt
  have hu32 := Try.underlying32
  have hu34 := Try.underlying34
  have hu30 := Try.underlying30
  have hu28 := Try.underlying28
  clear hb h1 h2 h3 h4 h5 hl hn hx hlt hR
  generalize hJ : idxI (fun y => y.o.time == t) r.l = J
  have HJ := Lib.hid hJ
  clear hJ
  by_cases hc : 0 ≤ J ∧ J ≠ i
  · rw [if_pos hc, if_pos hc]
    have t1 : decide (0 ≤ J) = true := decide_eq_true hc.1
    have t2 : (J == (i : Int)) = false := beq_eq_false_iff_ne.2 hc.2
    have t3 : (J != (i : Int)) = true := by rw [bne, t2]; rfl
    clear hc
    go_enter Try.func41, Try.ntmps41
    go_wp2_with fail
    refine gwP (fun wa hwa => ?_)
    have HBa : Hid (Below w.heap.size w wa) := Lib.hid (by rw [← hwa]; exact (Below.refl _ _).alloc (Nat.le_refl _) _)
    have HX : Hid (Blk wa w.heap.size #[.int .i64 hr.i, .int .i64 hr.g] 28) := Lib.hid (by rw [← hwa]; exact Blk.new _ _ _)
    clear hwa
    have m3 := cell_of m3 HBa.out HLt.out
    have x0 := HX.out.cell (j := 0) rfl
    have x1 := HX.out.cell (j := 1) rfl
    have CC : Hid (Calls Try.prog 26 #[.slice A2 r.l.length c2, .agg #[.int .i64 hr.i, .int .i64 hr.g]] wa.drew fun e w' => e = .returned (.int .i64 i) ∧ Below wa.heap.size wa w') := Lib.hid (by
      have := refOf_ (Kd.F_now (Kd.F_drew (Kd.F_below H4.out HBa.out))) H2.out HL.out hr
      rw [HN.out] at this
      exact this.mono (fun e w' ⟨a, b⟩ => ⟨a, (Below.refl _ _).drew.trans b⟩))
    go_region_with (go_at_call 26; refine CC.out.mono ?_; rintro e w' ⟨rfl, hb⟩; have HB := Lib.hid hb; clear hb)
    all_goals
      refine gwE (fun wb hwb => ?_)
      have HBw : Hid (Below w.heap.size w wb) := Lib.hid (by rw [← hwb]; exact btrans HBa.out HB.out)
      clear hwb HB CC x0 x1 m3 HX HBa
      have m3 : wb.cell? ⟨D, 3, none⟩ = some (.slice A2 r.l.length c2) := (HD.out.below HBw.out).cell (j := 3) rfl
      go_wp2_with fail
      refine (refAt_ (Kd.F_now (Kd.F_below H4.out HBw.out)) H2.out HL.out t).mono ?_
      rintro e w5 ⟨rfl, q5, rfl⟩
      rw [HJ.out]
      go_wp2_with fail
      go_ret
      exact ⟨rfl, ⟨S, HR.out.below (bdn HBw.out q5), fun k hk => Or.inl hk⟩, Chg.of_below (bdn HBw.out q5)⟩
  · rw [if_neg hc, if_neg hc]
    by_cases h0 : 0 ≤ J
    · have hji : J = i := by
        by_cases hj : J = i
        · exact hj
        · exact absurd ⟨h0, hj⟩ hc
      subst hji
      clear hc
      have t1 : decide (0 ≤ (i : Int)) = true := decide_eq_true h0
      have t2 : ((i : Int) == (i : Int)) = true := beq_self_eq_true _
      have t3 : ((i : Int) != (i : Int)) = false := by rw [bne, t2]; rfl
      clear h0
      go_enter Try.func41, Try.ntmps41
      go_wp2_with fail
      refine gwP (fun wa hwa => ?_)
      have HBa : Hid (Below w.heap.size w wa) := Lib.hid (by rw [← hwa]; exact (Below.refl _ _).alloc (Nat.le_refl _) _)
      have HX : Hid (Blk wa w.heap.size #[.int .i64 hr.i, .int .i64 hr.g] 28) := Lib.hid (by rw [← hwa]; exact Blk.new _ _ _)
      clear hwa
      have m3 := cell_of m3 HBa.out HLt.out
      have x0 := HX.out.cell (j := 0) rfl
      have x1 := HX.out.cell (j := 1) rfl
      have CC : Hid (Calls Try.prog 26 #[.slice A2 r.l.length c2, .agg #[.int .i64 hr.i, .int .i64 hr.g]] wa.drew fun e w' => e = .returned (.int .i64 i) ∧ Below wa.heap.size wa w') := Lib.hid (by
        have := refOf_ (Kd.F_now (Kd.F_drew (Kd.F_below H4.out HBa.out))) H2.out HL.out hr
        rw [HN.out] at this
        exact this.mono (fun e w' ⟨a, b⟩ => ⟨a, (Below.refl _ _).drew.trans b⟩))
      go_region_with (go_at_call 26; refine CC.out.mono ?_; rintro e w' ⟨rfl, hb⟩; have HB := Lib.hid hb; clear hb)
      all_goals
        refine gwE (fun wb hwb => ?_)
        have HBw : Hid (Below w.heap.size w wb) := Lib.hid (by rw [← hwb]; exact btrans HBa.out HB.out)
        clear hwb HB CC x0 x1 m3 HX HBa
        have m3 : wb.cell? ⟨D, 3, none⟩ = some (.slice A2 r.l.length c2) := (HD.out.below HBw.out).cell (j := 3) rfl
        go_wp2_with fail
        refine (refAt_ (Kd.F_now (Kd.F_below H4.out HBw.out)) H2.out HL.out t).mono ?_
        rintro e w5 ⟨rfl, q5, rfl⟩
        rw [HJ.out]
        have HBq : Hid (Below w.heap.size w (wb.drewN q5)) := Lib.hid (bdn HBw.out q5)
        generalize wb.drewN q5 = wq at *
        clear HBw m3
        have HDq := Lib.hid (HD.out.below HBq.out)
        have H3q := Lib.hid (Kd.F_below H3.out HBq.out)
        have H4q := Lib.hid (Kd.F_below H4.out HBq.out)
        have m3 : wq.cell? ⟨D, 3, none⟩ = some (.slice A2 r.l.length c2) := HDq.out.cell (j := 3) rfl
        obtain ⟨ad, rfl, e0, e1, e2, e3, e4, e5⟩ := row_at (Kd.F_now H4q.out) HX0.out
        have hi0 : (0 : Int) ≤ i := by omega
        have hiN : (i : Int) < r.l.length := by have := HI.out; omega
        have ei : (i : Int).toNat = i := by omega
        go_wp2_with fail
        refine gwP (fun wd hwd => ?_)
        have HBd : Hid (Below wq.heap.size wq wd) := Lib.hid (by rw [← hwd]; exact ((Below.refl _ _).alloc (Nat.le_refl _) _))
        have HY : Hid (Blk wd wq.heap.size #[.int .i64 x.r.i, .int .i64 x.r.g, .int .i64 t, .bool x.o.ins, .int .i64 x.o.key, .int .i64 x.o.id] 34) := Lib.hid (by rw [← hwd]; exact (Blk.new _ _ _))
        clear hwd m3 e0 e1 e2 e3 e4 e5 hi0 hiN ei
        have HBwd : Hid (Below w.heap.size w wd) := Lib.hid (btrans HBq.out HBd.out)
        have HDd := Lib.hid (HDq.out.below HBd.out)
        have H3d := Lib.hid (Kd.F_below H3q.out HBd.out)
        have H4d := Lib.hid (Kd.F_below H4q.out HBd.out)
        clear HDq H3q H4q HBq HBd
        have m3 : wd.cell? ⟨D, 3, none⟩ = some (.slice (some ad) r.l.length c2) := HDd.out.cell (j := 3) rfl
        have y0 := HY.out.cell (j := 0) rfl
        have y1 := HY.out.cell (j := 1) rfl
        have y2 := HY.out.cell (j := 2) rfl
        have y3 := HY.out.cell (j := 3) rfl
        have y4 := HY.out.cell (j := 4) rfl
        have y5 := HY.out.cell (j := 5) rfl
        have CW : Hid (Calls Try.prog 51 #[.slice (some ad) r.l.length c2, .int .i64 i] wd.drew fun e w' => ∃ A' c', e = .returned (.slice A' (r.l.eraseIdx i).length c') ∧ (r.l.eraseIdx i).length ≤ c' ∧ LRow w' (fun k => wd.heap.size ≤ k ∧ k < w'.heap.size) A' (r.l.eraseIdx i) ∧ Below wd.heap.size wd w') := Lib.hid ((refWithout_ (Kd.F_now (Kd.F_drew H4d.out)) H2.out HL.out HI.out).mono (fun e w' ⟨A', c', a, b, c, d⟩ => ⟨A', c', a, b, c, (Below.refl _ _).drew.trans d⟩))
        have HLe : Hid ((r.l.eraseIdx i).length ≤ 1000000) := Lib.hid (Nat.le_trans (by rw [List.length_eraseIdx]; split <;> omega) HL.out)
        generalize hle : r.l.eraseIdx i = le at *
        have HLeq := Lib.hid hle
        clear hle
        go_region_with (first
          | (go_at_call 51
             refine CW.out.mono ?_
             rintro e w5 ⟨A', c', rfl, hc', hrow, hb5⟩
             have HC' := Lib.hid hc'
             have HRow := Lib.hid hrow
             have HB5 := Lib.hid hb5
             have HY5 := Lib.hid (HY.out.below hb5)
             have y0 := HY5.out.cell (j := 0) rfl
             have y1 := HY5.out.cell (j := 1) rfl
             have y2 := HY5.out.cell (j := 2) rfl
             have y3 := HY5.out.cell (j := 3) rfl
             have y4 := HY5.out.cell (j := 4) rfl
             have y5 := HY5.out.cell (j := 5) rfl
             clear hc' hrow hb5)
          | (go_at_call 50
             refine (refAdd_ (Kd.F_now HRow.out) HC'.out HLe.out ⟨x.r, { x.o with time := t }⟩).mono ?_
             rintro e w6 ⟨A6, c6, rfl, hc6, hrow6, hb6⟩
             have HC6 := Lib.hid hc6
             have HRow6 := Lib.hid hrow6
             have HB6 := Lib.hid hb6
             have HD6 := Lib.hid (HDd.out.below (btrans HB5.out hb6))
             have m3 : w6.cell? ⟨D, 3, none⟩ = some (.slice (some ad) r.l.length c2) := HD6.out.cell (j := 3) rfl
             have n3 := HD6.out.free 3
             clear hc6 hrow6 hb6))
        all_goals
          refine gwE (fun wz hwz => ?_)
          have z5 : wd.heap.size ≤ w5.heap.size := HB5.out.size
          have z6 : w5.heap.size ≤ w6.heap.size := HB6.out.size
          have zd : w.heap.size ≤ wd.heap.size := HBwd.out.size
          have zl := HLt.out
          have HBw6 : Below w.heap.size w w6 := btrans (btrans HBwd.out HB5.out) HB6.out
          have RZ : RefAt wz (fun k => S k ∨ (w5.heap.size ≤ k ∧ k < w6.heap.size)) D { r with l := addL (r.l.eraseIdx i) ⟨x.r, { x.o with time := t }⟩ } := by
            rw [HLeq.out, ← hwz]
            exact RefAt.setL (r := r) (S' := fun k => w5.heap.size ≤ k ∧ k < w6.heap.size) HD6.out H1.out (Kd.F_below H3d.out (btrans HB5.out HB6.out)) (fun k hk => ⟨(H5.out k hk).1, by have := (H5.out k hk).2; omega⟩) HC6.out HRow6.out (fun k hk => ⟨by have := hk.1; omega, hk.2⟩)
          have CZ : Chg (fun k => k = D) w wz := by
            rw [← hwz]
            exact Chg.set (S := fun k => k = D) (p := ⟨D, 3, none⟩) (Chg.of_below HBw6) (fun _ => rfl) _
          have HRZ := Lib.hid RZ
          have HCZ := Lib.hid CZ
          have HWW : Hid (w.heap.size ≤ w5.heap.size) := Lib.hid (by omega)
          clear RZ CZ hwz HBw6
          go_wp2_with fail
          go_ret
          exact ⟨rfl, ⟨_, HRZ.out, fun k hk => by rcases hk with hk | hk; exact Or.inl hk; exact Or.inr (Nat.le_trans HWW.out hk.1)⟩, HCZ.out⟩
    · clear hc
      have t1 : decide (0 ≤ J) = false := decide_eq_false h0
      go_enter Try.func41, Try.ntmps41
      go_wp2_with fail
      refine gwP (fun wa hwa => ?_)
      have HBa : Hid (Below w.heap.size w wa) := Lib.hid (by rw [← hwa]; exact (Below.refl _ _).alloc (Nat.le_refl _) _)
      have HX : Hid (Blk wa w.heap.size #[.int .i64 hr.i, .int .i64 hr.g] 28) := Lib.hid (by rw [← hwa]; exact Blk.new _ _ _)
      clear hwa
      have m3 := cell_of m3 HBa.out HLt.out
      have x0 := HX.out.cell (j := 0) rfl
      have x1 := HX.out.cell (j := 1) rfl
      have CC : Hid (Calls Try.prog 26 #[.slice A2 r.l.length c2, .agg #[.int .i64 hr.i, .int .i64 hr.g]] wa.drew fun e w' => e = .returned (.int .i64 i) ∧ Below wa.heap.size wa w') := Lib.hid (by
        have := refOf_ (Kd.F_now (Kd.F_drew (Kd.F_below H4.out HBa.out))) H2.out HL.out hr
        rw [HN.out] at this
        exact this.mono (fun e w' ⟨a, b⟩ => ⟨a, (Below.refl _ _).drew.trans b⟩))
      go_region_with (go_at_call 26; refine CC.out.mono ?_; rintro e w' ⟨rfl, hb⟩; have HB := Lib.hid hb; clear hb)
      all_goals
        refine gwE (fun wb hwb => ?_)
        have HBw : Hid (Below w.heap.size w wb) := Lib.hid (by rw [← hwb]; exact btrans HBa.out HB.out)
        clear hwb HB CC x0 x1 m3 HX HBa
        have m3 : wb.cell? ⟨D, 3, none⟩ = some (.slice A2 r.l.length c2) := (HD.out.below HBw.out).cell (j := 3) rfl
        go_wp2_with fail
        refine (refAt_ (Kd.F_now (Kd.F_below H4.out HBw.out)) H2.out HL.out t).mono ?_
        rintro e w5 ⟨rfl, q5, rfl⟩
        rw [HJ.out]
        have HBq : Hid (Below w.heap.size w (wb.drewN q5)) := Lib.hid (bdn HBw.out q5)
        generalize wb.drewN q5 = wq at *
        clear HBw m3
        have HDq := Lib.hid (HD.out.below HBq.out)
        have H3q := Lib.hid (Kd.F_below H3.out HBq.out)
        have H4q := Lib.hid (Kd.F_below H4.out HBq.out)
        have m3 : wq.cell? ⟨D, 3, none⟩ = some (.slice A2 r.l.length c2) := HDq.out.cell (j := 3) rfl
        obtain ⟨ad, rfl, e0, e1, e2, e3, e4, e5⟩ := row_at (Kd.F_now H4q.out) HX0.out
        have hi0 : (0 : Int) ≤ i := by omega
        have hiN : (i : Int) < r.l.length := by have := HI.out; omega
        have ei : (i : Int).toNat = i := by omega
        go_wp2_with fail
        refine gwP (fun wd hwd => ?_)
        have HBd : Hid (Below wq.heap.size wq wd) := Lib.hid (by rw [← hwd]; exact ((Below.refl _ _).alloc (Nat.le_refl _) _))
        have HY : Hid (Blk wd wq.heap.size #[.int .i64 x.r.i, .int .i64 x.r.g, .int .i64 t, .bool x.o.ins, .int .i64 x.o.key, .int .i64 x.o.id] 34) := Lib.hid (by rw [← hwd]; exact (Blk.new _ _ _))
        clear hwd m3 e0 e1 e2 e3 e4 e5 hi0 hiN ei
        have HBwd : Hid (Below w.heap.size w wd) := Lib.hid (btrans HBq.out HBd.out)
        have HDd := Lib.hid (HDq.out.below HBd.out)
        have H3d := Lib.hid (Kd.F_below H3q.out HBd.out)
        have H4d := Lib.hid (Kd.F_below H4q.out HBd.out)
        clear HDq H3q H4q HBq HBd
        have m3 : wd.cell? ⟨D, 3, none⟩ = some (.slice (some ad) r.l.length c2) := HDd.out.cell (j := 3) rfl
        have y0 := HY.out.cell (j := 0) rfl
        have y1 := HY.out.cell (j := 1) rfl
        have y2 := HY.out.cell (j := 2) rfl
        have y3 := HY.out.cell (j := 3) rfl
        have y4 := HY.out.cell (j := 4) rfl
        have y5 := HY.out.cell (j := 5) rfl
        have CW : Hid (Calls Try.prog 51 #[.slice (some ad) r.l.length c2, .int .i64 i] wd.drew fun e w' => ∃ A' c', e = .returned (.slice A' (r.l.eraseIdx i).length c') ∧ (r.l.eraseIdx i).length ≤ c' ∧ LRow w' (fun k => wd.heap.size ≤ k ∧ k < w'.heap.size) A' (r.l.eraseIdx i) ∧ Below wd.heap.size wd w') := Lib.hid ((refWithout_ (Kd.F_now (Kd.F_drew H4d.out)) H2.out HL.out HI.out).mono (fun e w' ⟨A', c', a, b, c, d⟩ => ⟨A', c', a, b, c, (Below.refl _ _).drew.trans d⟩))
        have HLe : Hid ((r.l.eraseIdx i).length ≤ 1000000) := Lib.hid (Nat.le_trans (by rw [List.length_eraseIdx]; split <;> omega) HL.out)
        generalize hle : r.l.eraseIdx i = le at *
        have HLeq := Lib.hid hle
        clear hle
        go_region_with (first
          | (go_at_call 51
             refine CW.out.mono ?_
             rintro e w5 ⟨A', c', rfl, hc', hrow, hb5⟩
             have HC' := Lib.hid hc'
             have HRow := Lib.hid hrow
             have HB5 := Lib.hid hb5
             have HY5 := Lib.hid (HY.out.below hb5)
             have y0 := HY5.out.cell (j := 0) rfl
             have y1 := HY5.out.cell (j := 1) rfl
             have y2 := HY5.out.cell (j := 2) rfl
             have y3 := HY5.out.cell (j := 3) rfl
             have y4 := HY5.out.cell (j := 4) rfl
             have y5 := HY5.out.cell (j := 5) rfl
             clear hc' hrow hb5)
          | (go_at_call 50
             refine (refAdd_ (Kd.F_now HRow.out) HC'.out HLe.out ⟨x.r, { x.o with time := t }⟩).mono ?_
             rintro e w6 ⟨A6, c6, rfl, hc6, hrow6, hb6⟩
             have HC6 := Lib.hid hc6
             have HRow6 := Lib.hid hrow6
             have HB6 := Lib.hid hb6
             have HD6 := Lib.hid (HDd.out.below (btrans HB5.out hb6))
             have m3 : w6.cell? ⟨D, 3, none⟩ = some (.slice (some ad) r.l.length c2) := HD6.out.cell (j := 3) rfl
             have n3 := HD6.out.free 3
             clear hc6 hrow6 hb6))
        all_goals
          refine gwE (fun wz hwz => ?_)
          have z5 : wd.heap.size ≤ w5.heap.size := HB5.out.size
          have z6 : w5.heap.size ≤ w6.heap.size := HB6.out.size
          have zd : w.heap.size ≤ wd.heap.size := HBwd.out.size
          have zl := HLt.out
          have HBw6 : Below w.heap.size w w6 := btrans (btrans HBwd.out HB5.out) HB6.out
          have RZ : RefAt wz (fun k => S k ∨ (w5.heap.size ≤ k ∧ k < w6.heap.size)) D { r with l := addL (r.l.eraseIdx i) ⟨x.r, { x.o with time := t }⟩ } := by
            rw [HLeq.out, ← hwz]
            exact RefAt.setL (r := r) (S' := fun k => w5.heap.size ≤ k ∧ k < w6.heap.size) HD6.out H1.out (Kd.F_below H3d.out (btrans HB5.out HB6.out)) (fun k hk => ⟨(H5.out k hk).1, by have := (H5.out k hk).2; omega⟩) HC6.out HRow6.out (fun k hk => ⟨by have := hk.1; omega, hk.2⟩)
          have CZ : Chg (fun k => k = D) w wz := by
            rw [← hwz]
            exact Chg.set (S := fun k => k = D) (p := ⟨D, 3, none⟩) (Chg.of_below HBw6) (fun _ => rfl) _
          have HRZ := Lib.hid RZ
          have HCZ := Lib.hid CZ
          have HWW : Hid (w.heap.size ≤ w5.heap.size) := Lib.hid (by omega)
          clear RZ CZ hwz HBw6
          go_wp2_with fail
          go_ret
          exact ⟨rfl, ⟨_, HRZ.out, fun k hk => by rcases hk with hk | hk; exact Or.inl hk; exact Or.inr (Nat.le_trans HWW.out hk.1)⟩, HCZ.out⟩
end Go.Proofs.Ytccfjjaljckinaa.Tag
