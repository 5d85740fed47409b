/- Tables and their document, part Mg of this seat's texts: plain facts and walks. No conditions. -/
import Derived.Test.YtccfjjaljckinaaRMd
import Derived.LoopTactic
import Derived.Deep.Cut
import Derived.Test.YtccfjjaljckinaaRMe
import Derived.Deep.RegionWith
/- The last Gens of all slots. No conditions. -/
namespace Go.Proofs.Ytccfjjaljckinaa.Tag
open Go.RowKit Go.Lib Go.Shelf Go.Proofs.Ytccfjjaljckinaa.Mem Go.Proofs.Ytccfjjaljckinaa.IMap Go.Proofs.YtccfjjaljckinaaW.PrintWords

theorem infoI : (Try.prog.info? 3).map (fun i => (i.zero, i.size, i.bytes)) = some (some (.int .i64 0), 1, 8) := by kernel_rfl
def lastsOf (t : Tab) : List Int := t.slots.map Slot.last

set_option maxRecDepth 100000 in
set_option maxHeartbeats 4000000 in
theorem lasts_ {w : World} {B M : Nat} {v : Value} {t : Tab} (h : TabV w B M v t) :
    Calls Try.prog 21 #[.pointer (some ⟨B, 0, none⟩)] w fun e w' => ∃ A c, e = .returned (.slice A t.slots.length c) ∧ Kd.R (Kd.int .i64) 3 w' w.heap.size (fun k => w.heap.size ≤ k) (.slice A t.slots.length c) (lastsOf t) ∧ Below w.heap.size w w' := by
  have HT := Lib.hid h
  have c2 := h.c2
  have hfew := h.good.few
  have hv : ∃ R cap, v = .slice R t.slots.length cap := by
    obtain ⟨A, c, e⟩ := own_slice h.row
    exact ⟨A, c, e⟩
  obtain ⟨A, cap, rfl⟩ := hv
  clear h
  go_enter Try.func21, Try.ntmps21
  go_wp2_with fail
  go_loopw [3, 11] (fun o i wr => ∃ k : Nat, k ≤ t.slots.length ∧ i = .int .i64 k ∧ Kd.R (Kd.int .i64) 3 wr w.heap.size (fun k => w.heap.size ≤ k) o ((lastsOf t).take k) ∧ Below w.heap.size w wr) (fun _ i _ => t.slots.length - (intOf i).toNat)
  case atStart => exact ⟨0, Nat.zero_le _, rfl, Kd.R_nil _ _ _ _ _, Below.refl _ _⟩
  case round =>
    obtain ⟨k, hk, rfl, hR, hB⟩ := hrel
    have HR := Lib.hid hR
    have HB := Lib.hid hB
    have c2 : wr.cell? ⟨B, 2, none⟩ = some (.slice A t.slots.length cap) := (HT.out.fresh hB).c2
    clear hR hB
    by_cases hlt : k < t.slots.length
    · obtain ⟨s, hs⟩ : ∃ s, t.slots[k]? = some s := ⟨_, List.getElem?_eq_getElem hlt⟩
      obtain ⟨R, cap', hv', hRl, hRc, _, _, hcell, hfrz⟩ := (HT.out.fresh HB.out).cells hs
      injection hv' with hv1 hv2 hv3
      subst hv1 hv3
      have r0 := hcell 0 _ rfl
      have r1 := hcell 1 _ rfl
      have r2 := hcell 2 _ rfl
      have r3 := hcell 3 _ rfl
      have r4 := hcell 4 _ rfl
      have r5 := hcell 5 _ rfl
      simp only [Nat.add_zero] at r0
      have HS : Hid ((lastsOf t).take k ++ [s.last] = (lastsOf t).take (k + 1)) := Lib.hid (by
        unfold lastsOf
        rw [List.take_add_one, List.getElem?_map, hs]
        rfl)
      have HLen : Hid (((lastsOf t).take k).length ≤ 1000000) := Lib.hid (by unfold lastsOf; rw [List.length_take, List.length_map]; omega)
      clear hcell hfrz hv2 hs
      go_upto_region 5 with (fail)
      refine gwP (fun wy hwy => ?_)
      have HBy : Hid (Below w.heap.size w wy) := Lib.hid (by rw [← hwy]; exact below_alloc HB.out _)
      have HRy : Hid (Kd.R (Kd.int .i64) 3 wy w.heap.size (fun k => w.heap.size ≤ k) _ ((lastsOf t).take k)) := Lib.hid (by rw [← hwy]; exact Kd.R_alloc HR.out _)
      have HXy : Hid (Blk wy wr.heap.size #[.int .i64 s.last, .int .i64 s.gen, .int .i64 s.op.time, .bool s.op.ins, .int .i64 s.op.key, .int .i64 s.op.id] 73) := Lib.hid (by rw [← hwy]; exact Blk.new _ _ _)
      clear hwy HR HB
      have y0 := HXy.out.cell (j := 0) rfl
      go_wp2_with (first
        | ((with_reducible refine gate_builtin (b := .append) (xs := #[.tmp 15, .tmp 18]) rfl ?_); at_builtin; refine Kd.R_append (Kd.int .i64) (w0 := w) w.heap.size rfl (.tmp 15) (.tmp 18) 47 3 (.int .i64 0) 8 rfl Try.underlying47 infoI rfl (by decide) (by decide) _ ((lastsOf t).take k) s.last [.int .i64 s.last] (fun k => w.heap.size ≤ k) (fun _ => False) rfl rfl ?aP (fun k hk => hk.elim) ?aF ?aO ?aB ?aS ?aL ?_; (case aP => rfl); (case aF => exact (fun k hk => Nat.le_trans (HBy.out.size) hk)); (case aO => exact HRy.out); (case aB => exact HBy.out); (case aS => exact HBy.out.size); (case aL => have := HLen.out; omega); intro v7 w7 hR7 hB7 _ _; rw [HS.out] at hR7; have HR7 := Lib.hid hR7; have HB7 := Lib.hid hB7; clear hR7 hB7))
      go_roundw
      case rel => exact ⟨k + 1, by omega, by go_num, HR7.out, HB7.out⟩
      case measure => simp [intOf]; omega
    · have hkk : k = t.slots.length := by omega
      go_wp2_with fail
      go_ret
      have e : (lastsOf t).take k = lastsOf t := List.take_of_length_le (by unfold lastsOf; rw [List.length_map]; omega)
      have hl : ((lastsOf t).take k).length = t.slots.length := by rw [e]; unfold lastsOf; rw [List.length_map]
      have hR := HR.out
      obtain ⟨Ao, co, rfl⟩ := Kd.R_slice hR
      rw [hl, e] at hR
      exact ⟨Ao, co, by rw [← hl]; rfl, hR, HB.out⟩
end Go.Proofs.Ytccfjjaljckinaa.Tag
/- The list of a table: what lives, as it is gathered. No program. No conditions. -/
namespace Go.Proofs.Ytccfjjaljckinaa.Tag
open Go.RowKit Go.Lib Go.Proofs.Ytccfjjaljckinaa.Mem Go.Proofs.Ytccfjjaljckinaa.IMap Go.Proofs.YtccfjjaljckinaaW.PrintWords Go.Proofs.Ytccfjjaljckinaa.PTagActs

def liveAt (p : Slot × Nat) : Option Listed := if 0 < p.1.gen then some ⟨⟨(p.2 : Int), p.1.gen⟩, p.1.op⟩ else none
/-- What lives, in the order of the slots. -/
def liveL (l : List Slot) : List Listed := l.zipIdx.filterMap liveAt
theorem liveL_take {l : List Slot} {k : Nat} {s : Slot} (hs : l[k]? = some s) : liveL (l.take (k + 1)) = liveL (l.take k) ++ (if 0 < s.gen then [⟨⟨(k : Int), s.gen⟩, s.op⟩] else []) := by
  have hk := (List.getElem?_eq_some_iff.1 hs).1
  have e : l.take (k + 1) = l.take k ++ [s] := by rw [List.take_add_one, hs]; rfl
  unfold liveL
  rw [e, List.zipIdx_append, List.filterMap_append]
  congr 1
  have hl : (l.take k).length = k := by rw [List.length_take]; omega
  rw [hl]
  simp only [List.zipIdx_cons, List.zipIdx_nil, Nat.zero_add]
  unfold liveAt
  by_cases h : 0 < s.gen <;> simp [h]
theorem mem_liveL {l : List Slot} {x : Listed} : x ∈ liveL l ↔ ∃ (i : Nat) (s : Slot), l[i]? = some s ∧ 0 < s.gen ∧ x = ⟨⟨(i : Int), s.gen⟩, s.op⟩ := by
  unfold liveL
  rw [List.mem_filterMap]
  constructor
  · rintro ⟨⟨s, i⟩, h1, h2⟩
    have h3 := List.mem_zipIdx_iff_getElem?.1 h1
    unfold liveAt at h2
    split at h2
    · rename_i hg
      injection h2 with h2
      exact ⟨i, s, h3, hg, h2.symm⟩
    · cases h2
  · rintro ⟨i, s, hs, hg, rfl⟩
    refine ⟨(s, i), List.mem_zipIdx_iff_getElem?.2 hs, ?_⟩
    unfold liveAt
    rw [if_pos hg]
theorem liveL_len (l : List Slot) : (liveL l).length ≤ l.length := by
  unfold liveL
  have := List.length_filterMap_le liveAt l.zipIdx
  rw [List.length_zipIdx] at this
  exact this
end Go.Proofs.Ytccfjjaljckinaa.Tag
/- What a table tells is what the document's table tells, call by call: plain facts. No conditions. -/
namespace Go.Proofs.Ytccfjjaljckinaa.Tag
open Go.RowKit Go.Lib Go.Proofs.Ytccfjjaljckinaa.Mem Go.Proofs.Ytccfjjaljckinaa.IMap
set_option linter.unusedSimpArgs false
set_option linter.unusedVariables false

def Sorted (l : List Listed) : Prop := l.Pairwise (fun a b => a.o.time < b.o.time)
theorem sorted_eq : ∀ {a b : List Listed}, Sorted a → Sorted b → (∀ x, x ∈ a ↔ x ∈ b) → a = b
  | [], [], _, _, _ => rfl
  | [], y :: b, _, _, h => absurd ((h y).2 List.mem_cons_self) (by simp)
  | x :: a, [], _, _, h => absurd ((h x).1 List.mem_cons_self) (by simp)
  | x :: a, y :: b, ha, hb, h => by
    have ha' := List.pairwise_cons.1 ha
    have hb' := List.pairwise_cons.1 hb
    have hxy : x = y := by
      rcases List.mem_cons.1 ((h x).1 List.mem_cons_self) with e | hx
      · exact e
      · rcases List.mem_cons.1 ((h y).2 List.mem_cons_self) with e | hy
        · exact e.symm
        · have h1 := ha'.1 y hy
          have h2 := hb'.1 x hx
          omega
    subst hxy
    have : a = b := sorted_eq ha'.2 hb'.2 (fun z => by
      constructor
      · intro hz
        rcases List.mem_cons.1 ((h z).1 (List.mem_cons_of_mem _ hz)) with e | hz'
        · subst e; have := ha'.1 z hz; omega
        · exact hz'
      · intro hz
        rcases List.mem_cons.1 ((h z).2 (List.mem_cons_of_mem _ hz)) with e | hz'
        · subst e; have := hb'.1 z hz; omega
        · exact hz')
    rw [this]
theorem Sorted.inj {l : List Listed} (h : Sorted l) : ∀ {i j : Nat} {a b : Listed}, l[i]? = some a → l[j]? = some b → a.o.time = b.o.time → i = j := by
  intro i j a b ha hb he
  obtain ⟨hi, ea⟩ := List.getElem?_eq_some_iff.1 ha
  obtain ⟨hj, eb⟩ := List.getElem?_eq_some_iff.1 hb
  have hp := List.pairwise_iff_getElem.1 h
  rcases Nat.lt_trichotomy i j with h1 | h1 | h1
  · have := hp i j hi hj h1; rw [ea, eb] at this; omega
  · exact h1
  · have := hp j i hj hi h1; rw [ea, eb] at this; omega
theorem Sorted.erase {l : List Listed} (h : Sorted l) (k : Nat) : Sorted (l.eraseIdx k) := List.Pairwise.sublist (List.eraseIdx_sublist l k) h
theorem Sorted.mem_erase {l : List Listed} (h : Sorted l) {k : Nat} {x : Listed} (hx : l[k]? = some x) (y : Listed) : y ∈ l.eraseIdx k ↔ y ∈ l ∧ y ≠ x := by
  rw [List.mem_eraseIdx_iff_getElem?]
  constructor
  · rintro ⟨i, hi, hy⟩
    refine ⟨List.mem_of_getElem? hy, ?_⟩
    rintro rfl
    exact hi (h.inj hy hx rfl)
  · rintro ⟨hy, hne⟩
    obtain ⟨i, hi⟩ := List.getElem?_of_mem hy
    refine ⟨i, ?_, hi⟩
    rintro rfl
    rw [hx] at hi; injection hi with hi; exact hne hi.symm
theorem mem_addL {l : List Listed} {x y : Listed} : y ∈ addL l x ↔ y = x ∨ y ∈ l := by
  unfold addL
  rw [List.mem_append, List.mem_cons]
  have : y ∈ l ↔ y ∈ l.takeWhile (earlier x) ∨ y ∈ l.dropWhile (earlier x) := by rw [← List.mem_append, List.takeWhile_append_dropWhile]
  rw [this]
  constructor
  · rintro (h | h | h)
    · exact Or.inr (Or.inl h)
    · exact Or.inl h
    · exact Or.inr (Or.inr h)
  · rintro (h | h | h)
    · exact Or.inr (Or.inl h)
    · exact Or.inl h
    · exact Or.inr (Or.inr h)
theorem Sorted.addL : ∀ {l : List Listed} {x : Listed}, Sorted l → (∀ y ∈ l, y.o.time ≠ x.o.time) → Sorted (addL l x)
  | [], x, _, _ => by unfold Tag.addL Sorted; simp
  | y :: l, x, h, hn => by
    have h' := List.pairwise_cons.1 h
    have hy := hn y List.mem_cons_self
    unfold Tag.addL
    by_cases he : y.o.time < x.o.time
    · have e : earlier x y = true := decide_eq_true he
      have ih := Sorted.addL (x := x) h'.2 (fun z hz => hn z (List.mem_cons_of_mem _ hz))
      have ih' : Sorted (y :: Tag.addL l x) := by
        refine List.pairwise_cons.2 ⟨fun z hz => ?_, ih⟩
        rcases mem_addL.1 hz with rfl | hz
        · exact he
        · exact h'.1 z hz
      unfold Tag.addL at ih'
      simp only [List.takeWhile_cons, List.dropWhile_cons, e, if_true, List.cons_append]
      exact ih'
    · have e : earlier x y = false := decide_eq_false he
      simp only [List.takeWhile_cons, List.dropWhile_cons, e, Bool.false_eq_true, if_false, List.nil_append]
      refine List.pairwise_cons.2 ⟨fun z hz => ?_, h⟩
      rcases List.mem_cons.1 hz with rfl | hz
      · omega
      · have := h'.1 z hz; omega

theorem live_go : ∀ (l : List Slot) (n : Nat), ((l.zipIdx n).filterMap liveAt).length = liveN l ∧ ((l.zipIdx n).filterMap liveAt).Pairwise (fun a b => a.r.i < b.r.i) ∧ ∀ x ∈ (l.zipIdx n).filterMap liveAt, (n : Int) ≤ x.r.i
  | [], n => by simp [liveN]
  | s :: l, n => by
    obtain ⟨h1, h2, h3⟩ := live_go l (n + 1)
    by_cases hg : 0 < s.gen
    · have e : liveAt (s, n) = some ⟨⟨(n : Int), s.gen⟩, s.op⟩ := by unfold liveAt; rw [if_pos hg]
      rw [List.zipIdx_cons, List.filterMap_cons_some e]
      refine ⟨by simp only [List.length_cons, h1]; unfold liveN; simp [List.filter_cons, hg], List.pairwise_cons.2 ⟨fun y hy => ?_, h2⟩, fun y hy => ?_⟩
      · have := h3 y hy; simp only; omega
      · rcases List.mem_cons.1 hy with rfl | hy
        · exact Int.le_refl _
        · have := h3 y hy; omega
    · have e : liveAt (s, n) = none := by unfold liveAt; rw [if_neg hg]
      rw [List.zipIdx_cons, List.filterMap_cons_none e]
      refine ⟨by rw [h1]; unfold liveN; simp [List.filter_cons, hg], h2, fun y hy => by have := h3 y hy; omega⟩
theorem liveL_length (l : List Slot) : (liveL l).length = liveN l := (live_go l 0).1
theorem len_le : ∀ {a b : List Listed}, a.Nodup → (∀ x ∈ a, x ∈ b) → a.length ≤ b.length
  | [], b, _, _ => Nat.zero_le _
  | x :: a, b, hn, h => by
    classical
    have hn' := List.nodup_cons.1 hn
    have hx := h x List.mem_cons_self
    obtain ⟨b1, b2, rfl⟩ := List.append_of_mem hx
    have := len_le (a := a) (b := b1 ++ b2) hn'.2 (fun z hz => by
      have := h z (List.mem_cons_of_mem _ hz)
      rw [List.mem_append, List.mem_cons] at this
      rw [List.mem_append]
      rcases this with h1 | rfl | h1
      · exact Or.inl h1
      · exact absurd hz hn'.1
      · exact Or.inr h1)
    simp only [List.length_append, List.length_cons] at this ⊢
    omega

structure Rel (t : Tab) (r : RTab) : Prop where
  cap : r.cap = t.cap
  serial : r.serial = t.serial
  lasts : r.lasts = lastsOf t
  sorted : Sorted r.l
  mem : ∀ x, x ∈ r.l ↔ x ∈ liveL t.slots

section
variable {t : Tab} {r : RTab}
theorem Rel.len (h : Rel t r) : r.l.length = liveN t.slots := by
  have n1 : r.l.Nodup := List.Pairwise.imp (fun {a b} hab e => by subst e; omega) h.sorted
  have n2 : (liveL t.slots).Nodup := List.Pairwise.imp (fun {a b} hab e => by subst e; omega) (live_go t.slots 0).2.1
  have h1 := len_le n1 (fun x hx => (h.mem x).1 hx)
  have h2 := len_le n2 (fun x hx => (h.mem x).2 hx)
  have := liveL_length t.slots
  omega
theorem Rel.at_ (h : Rel t r) {x : Listed} (hx : x ∈ r.l) : ∃ (i : Nat) (s : Slot), t.slots[i]? = some s ∧ 0 < s.gen ∧ x = ⟨⟨(i : Int), s.gen⟩, s.op⟩ := mem_liveL.1 ((h.mem x).1 hx)
theorem Rel.in_ (h : Rel t r) {i : Nat} {s : Slot} (hs : t.slots[i]? = some s) (hg : 0 < s.gen) : (⟨⟨(i : Int), s.gen⟩, s.op⟩ : Listed) ∈ r.l := (h.mem _).2 (mem_liveL.2 ⟨i, s, hs, hg, rfl⟩)
theorem Rel.slotU (h : Rel t r) {x y : Listed} (hx : x ∈ r.l) (hy : y ∈ r.l) (e : x.r.i = y.r.i) : x = y := by
  obtain ⟨i, s, hs, hg, rfl⟩ := h.at_ hx
  obtain ⟨j, u, hu, hg', rfl⟩ := h.at_ hy
  have : i = j := by simp only at e; omega
  subst this
  rw [hs] at hu; injection hu with hu; subst hu; rfl
theorem Rel.times (h : Rel t r) (x : Int) : (timesOf t.slots x).isSome = decide (0 ≤ idxI (fun y => y.o.time == x) r.l) := by
  rcases idxI_cases (fun y => y.o.time == x) r.l with ⟨e, hn⟩ | ⟨k, y, e, hy, hp, _⟩
  · rw [e]
    cases ht : timesOf t.slots x with
    | none => rfl
    | some v =>
      obtain ⟨i, s, rfl, hs, hg, hx⟩ := timesOf_some ht
      have := hn _ (h.in_ hs hg)
      simp [hx] at this
  · rw [e]
    cases ht : timesOf t.slots x with
    | none =>
      obtain ⟨i, s, hs, hg, rfl⟩ := h.at_ (List.mem_of_getElem? hy)
      have := timesOf_none ht s (List.mem_of_getElem? hs) hg
      simp at hp
      exact absurd hp this
    | some v => simp
theorem Rel.may (h : Rel t r) (x : Int) : rmay r x = mayE t x := by
  unfold rmay mayE
  rw [h.len, h.cap, h.times x]
  by_cases hf : (liveN t.slots : Int) = t.cap
  · rw [if_pos hf, if_pos hf]
  · rw [if_neg hf, if_neg hf]
    by_cases hi : 0 ≤ idxI (fun y => y.o.time == x) r.l
    · rw [if_pos hi, if_pos (decide_eq_true hi)]
    · rw [if_neg hi, if_neg (by rw [decide_eq_false hi]; decide)]
theorem Rel.none_time (h : Rel t r) {x : Int} (hx : mayE t x = 0) : ∀ y ∈ r.l, y.o.time ≠ x := by
  have hm := h.may x
  rw [hx] at hm
  unfold rmay at hm
  split at hm
  · cases hm
  · split at hm
    · cases hm
    · rename_i h2
      rcases idxI_cases (fun y => y.o.time == x) r.l with ⟨_, hn⟩ | ⟨k, y, e, _⟩
      · intro y hy
        have := hn y hy
        simpa using this
      · rw [e] at h2; omega

theorem Rel.find_none (h : Rel t r) {q : Ref} (hf : findOf t q.i q.g = none) : idxI (hasRef q) r.l = -1 := by
  refine idxI_none (fun y hy => ?_)
  obtain ⟨i, s, hs, hg, rfl⟩ := h.at_ hy
  have hi := (List.getElem?_eq_some_iff.1 hs).1
  unfold hasRef
  by_cases h1 : (i : Int) = q.i
  · by_cases h2 : s.gen = q.g
    · exfalso
      unfold findOf at hf
      rw [if_pos ⟨by omega, by omega, by omega, by rw [← h1, Int.toNat_natCast, hs]; simp [h2]⟩] at hf
      cases hf
    · simp [h2]
  · simp [h1]
theorem Rel.find_some (h : Rel t r) {q : Ref} {i : Nat} {s : Slot} (hf : findOf t q.i q.g = some i) (hs : t.slots[i]? = some s) :
    ∃ k : Nat, idxI (hasRef q) r.l = k ∧ r.l[k]? = some ⟨q, s.op⟩ ∧ q = ⟨(i : Int), s.gen⟩ ∧ 0 < s.gen := by
  obtain ⟨s', hs', hi, hg, h1⟩ := findOf_some hf
  rw [hs] at hs'; injection hs' with hs'; subst hs'
  have hq : q = ⟨(i : Int), s.gen⟩ := by cases q; simp at hi hg ⊢; omega
  have hgp : 0 < s.gen := by omega
  have hm : (⟨q, s.op⟩ : Listed) ∈ r.l := by rw [hq]; exact h.in_ hs hgp
  rcases idxI_cases (hasRef q) r.l with ⟨_, hn⟩ | ⟨k, y, e, hy, hp, _⟩
  · have := hn _ hm
    simp [hasRef] at this
  · refine ⟨k, e, ?_, hq, hgp⟩
    have hyi : y.r.i = q.i := by unfold hasRef at hp; simp at hp; exact hp.1
    rw [hy, h.slotU (List.mem_of_getElem? hy) hm hyi]

theorem mem_live_set {l : List Slot} {i : Nat} {s s' : Slot} (hs : l[i]? = some s) (y : Listed) : y ∈ liveL (l.set i s') ↔ (y ∈ liveL l ∧ y.r.i ≠ (i : Int)) ∨ (0 < s'.gen ∧ y = ⟨⟨(i : Int), s'.gen⟩, s'.op⟩) := by
  rw [mem_liveL, mem_liveL]
  constructor
  · rintro ⟨j, u, hu, hg, rfl⟩
    by_cases hj : j = i
    · subst hj
      rw [set_at hs] at hu; injection hu with hu; subst hu
      exact Or.inr ⟨hg, rfl⟩
    · rw [set_off hj] at hu
      exact Or.inl ⟨⟨j, u, hu, hg, rfl⟩, by simp; omega⟩
  · rintro (⟨⟨j, u, hu, hg, rfl⟩, hne⟩ | ⟨hg, rfl⟩)
    · exact ⟨j, u, by rw [set_off (by simp at hne; omega)]; exact hu, hg, rfl⟩
    · exact ⟨i, s', set_at hs, hg, rfl⟩
theorem Rel.set (h : Rel t r) {i : Nat} {s s' : Slot} (hs : t.slots[i]? = some s) (hl : s'.last = s.last) {l' : List Listed} (hso : Sorted l')
    (hm : ∀ y, y ∈ l' ↔ (y ∈ r.l ∧ y.r.i ≠ (i : Int)) ∨ (0 < s'.gen ∧ y = ⟨⟨(i : Int), s'.gen⟩, s'.op⟩)) : Rel { t with slots := t.slots.set i s' } { r with l := l' } := by
  refine ⟨h.cap, h.serial, ?_, hso, fun x => ?_⟩
  · rw [h.lasts]
    unfold lastsOf
    simp only
    rw [List.map_set, hl]
    refine (set_same ?_).symm
    rw [List.getElem?_map, hs]; rfl
  · rw [hm x, mem_live_set hs, h.mem x]

/-- Drop. -/
theorem Rel.drop (h : Rel t r) (q : Ref) : (rdrop r q).1 = (dropR t q).1 ∧ (rdrop r q).2.1 = (dropR t q).2.1 ∧ Rel (dropR t q).2.2 (rdrop r q).2.2 := by
  unfold dropR
  cases hf : findOf t q.i q.g with
  | none =>
    have e := h.find_none hf
    have : rdrop r q = (op0, false, r) := by
      unfold rdrop
      rw [e]
      split
      · rw [if_neg (by omega)]
      · rfl
    rw [this]
    exact ⟨rfl, rfl, h⟩
  | some i =>
    obtain ⟨s, hs, _⟩ := findOf_some hf
    simp only [hs]
    obtain ⟨k, e, hk, hq, hg⟩ := h.find_some hf hs
    have : rdrop r q = (s.op, true, { r with l := r.l.eraseIdx k }) := by
      unfold rdrop
      rw [e, Int.toNat_natCast, hk]
      simp
    rw [this]
    refine ⟨rfl, rfl, h.set (s' := ⟨s.last, 0, op0⟩) hs rfl (h.sorted.erase k) (fun y => ?_)⟩
    rw [h.sorted.mem_erase hk y]
    constructor
    · rintro ⟨hy, hne⟩
      refine Or.inl ⟨hy, fun e => hne ?_⟩
      exact h.slotU hy (List.mem_of_getElem? hk) (by rw [e, hq])
    · rintro (⟨hy, hne⟩ | ⟨hg0, _⟩)
      · refine ⟨hy, ?_⟩
        rintro rfl
        exact hne (by rw [hq])
      · exact absurd hg0 (by simp)

/-- Move. -/
theorem Rel.move (h : Rel t r) (q : Ref) (x : Int) : (rmove r q x).1 = (moveR t q x).1 ∧ Rel (moveR t q x).2 (rmove r q x).2 := by
  unfold moveR
  cases hf : findOf t q.i q.g with
  | none =>
    have e := h.find_none hf
    have : rmove r q x = (13, r) := by
      unfold rmove
      rw [e]
      split
      · rw [if_neg (by omega)]
      · rfl
    rw [this]
    exact ⟨rfl, h⟩
  | some i =>
    obtain ⟨s, hs, _⟩ := findOf_some hf
    simp only [hs]
    obtain ⟨k, e, hk, hq, hg⟩ := h.find_some hf hs
    have hko := (List.getElem?_eq_some_iff.1 hk).1
    have hsame : ∀ (j : Nat), idxI (fun y => y.o.time == x) r.l = j → (j = k ↔ x = s.op.time) := by
      intro j hj
      rcases idxI_cases (fun y => y.o.time == x) r.l with ⟨e', _⟩ | ⟨j', y, e', hy, hp, _⟩
      · rw [hj] at e'; omega
      · rw [hj] at e'
        have : j = j' := by omega
        subst this
        simp at hp
        constructor
        · rintro rfl
          rw [hk] at hy; injection hy with hy; subst hy
          exact hp.symm
        · intro hx
          exact h.sorted.inj hy hk (by rw [hp, hx])
    have hrm : rmove r q x = (if 0 ≤ idxI (fun y => y.o.time == x) r.l ∧ idxI (fun y => y.o.time == x) r.l ≠ (k : Int) then (11, r)
       else (0, { r with l := addL (r.l.eraseIdx k) ⟨q, { s.op with time := x }⟩ })) := by
      unfold rmove
      rw [e, Int.toNat_natCast, hk]
      simp only
      rw [if_pos (by omega)]
    rw [hrm]
    have hcond : (0 ≤ idxI (fun y => y.o.time == x) r.l ∧ idxI (fun y => y.o.time == x) r.l ≠ (k : Int)) ↔ ((timesOf t.slots x).isSome ∧ x ≠ s.op.time) := by
      rw [h.times x, decide_eq_true_iff]
      constructor
      · rintro ⟨h0, h1⟩
        refine ⟨h0, fun hx => ?_⟩
        obtain ⟨j, hj⟩ : ∃ j : Nat, idxI (fun y => y.o.time == x) r.l = j := ⟨_, (Int.toNat_of_nonneg h0).symm⟩
        have := (hsame j hj).2 hx
        exact h1 (by rw [hj, this])
      · rintro ⟨h0, h1⟩
        refine ⟨h0, fun hx => h1 ((hsame k hx).1 rfl)⟩
    by_cases hc : (timesOf t.slots x).isSome ∧ x ≠ s.op.time
    · rw [if_pos (hcond.2 hc), if_pos hc]
      exact ⟨rfl, h⟩
    · rw [if_neg (fun h' => hc (hcond.1 h')), if_neg hc]
      refine ⟨rfl, h.set (s' := moveSlot s x) hs rfl ?_ (fun y => ?_)⟩
      · refine (h.sorted.erase k).addL (fun y hy => ?_)
        have hy' := (h.sorted.mem_erase hk y).1 hy
        intro hx
        simp only at hx
        refine hc ⟨?_, ?_⟩
        · rw [h.times x, decide_eq_true_iff]
          rcases idxI_cases (fun y => y.o.time == x) r.l with ⟨_, hn⟩ | ⟨j, z, e', _⟩
          · have := hn y hy'.1; simp [hx] at this
          · rw [e']; omega
        · intro hxs
          refine hy'.2 ?_
          obtain ⟨j, hj⟩ := List.getElem?_of_mem hy'.1
          have := h.sorted.inj hj hk (by rw [hx, hxs])
          subst this
          rw [hk] at hj; injection hj with hj; exact hj.symm
      · rw [mem_addL, h.sorted.mem_erase hk y]
        unfold moveSlot
        simp only
        constructor
        · rintro (rfl | ⟨hy, hne⟩)
          · exact Or.inr ⟨hg, by rw [hq]⟩
          · exact Or.inl ⟨hy, fun e => hne (h.slotU hy (List.mem_of_getElem? hk) (by rw [e, hq]))⟩
        · rintro (⟨hy, hne⟩ | ⟨_, rfl⟩)
          · refine Or.inr ⟨hy, ?_⟩
            rintro rfl
            exact hne (by rw [hq])
          · exact Or.inl (by rw [hq])

theorem Rel.slotAny (h : Rel t r) {i : Nat} {s : Slot} (hs : t.slots[i]? = some s) (g : 0 ≤ s.gen) : r.l.any (fun y => y.r.i == (i : Int)) = decide (0 < s.gen) := by
  by_cases hg : 0 < s.gen
  · rw [decide_eq_true hg, List.any_eq_true]
    exact ⟨_, h.in_ hs hg, by simp⟩
  · rw [decide_eq_false hg, List.any_eq_false]
    intro y hy
    obtain ⟨j, u, hu, hg', rfl⟩ := h.at_ hy
    simp only [beq_iff_eq]
    intro e
    have : j = i := by omega
    subst this
    rw [hs] at hu; injection hu with hu; subst hu
    exact hg hg'
theorem Rel.idAny (h : Rel t r) (id : Int) : r.l.any (fun y => y.o.id == id) = t.slots.any (pKnown id) := by
  rw [Bool.eq_iff_iff, List.any_eq_true, List.any_eq_true]
  constructor
  · rintro ⟨y, hy, he⟩
    obtain ⟨j, u, hu, hg', rfl⟩ := h.at_ hy
    exact ⟨u, List.mem_of_getElem? hu, by unfold pKnown; simp at he; simp [hg', he]⟩
  · rintro ⟨u, hu, he⟩
    obtain ⟨j, hj⟩ := List.getElem?_of_mem hu
    unfold pKnown at he
    simp at he
    exact ⟨_, h.in_ hj he.1, by simp [he.2]⟩
theorem Rel.lastAt (h : Rel t r) (i : Nat) : r.lasts[i]? = (t.slots[i]?).map Slot.last := by rw [h.lasts]; unfold lastsOf; rw [List.getElem?_map]
/-- Revive. -/
theorem Rel.reviveE (h : Rel t r) (g : Good t) (x : Listed) : rreviveE r x = Tag.reviveE t x := by
  unfold rreviveE Tag.reviveE
  rw [h.may]
  by_cases hm : mayE t x.o.time = 0
  · rw [if_pos hm, if_pos hm]
    by_cases hi : x.r.i < 0
    · rw [if_pos hi, if_pos (Or.inl hi)]
    · rw [if_neg hi]
      rw [h.lastAt]
      cases hs : t.slots[x.r.i.toNat]? with
      | none =>
        have := List.getElem?_eq_none_iff.1 hs
        rw [if_pos (show x.r.i < 0 ∨ (t.slots.length : Int) ≤ x.r.i from Or.inr (by omega))]; rfl
      | some s =>
        have hlt := (List.getElem?_eq_some_iff.1 hs).1
        rw [if_neg (show ¬ (x.r.i < 0 ∨ (t.slots.length : Int) ≤ x.r.i) from by omega)]
        have hsl := h.slotAny hs (g.slots s (List.mem_of_getElem? hs)).gen0
        rw [Int.toNat_of_nonneg (by omega)] at hsl
        simp only [Option.map_some]
        rw [h.serial, h.idAny]
        have hcc : (r.l.any (fun y => y.r.i == x.r.i) = true ∨ x.r.g < 1 ∨ s.last < x.r.g) ↔ (0 < s.gen ∨ x.r.g < 1 ∨ s.last < x.r.g) := by rw [hsl, decide_eq_true_iff]
        by_cases hc : 0 < s.gen ∨ x.r.g < 1 ∨ s.last < x.r.g
        · rw [if_pos (hcc.2 hc), if_pos hc]
        · rw [if_neg (fun h' => hc (hcc.1 h')), if_neg hc]
          have hk : (x.o.id < 0 ∨ t.serial ≤ x.o.id ∨ t.slots.any (pKnown x.o.id) = true ∨ (x.o.ins = false ∧ x.o.key ≠ 0)) ↔ (knownOf t x.o.id = false ∨ (x.o.ins = false ∧ x.o.key ≠ 0)) := by
            unfold knownOf
            rw [Bool.and_eq_false_iff, Bool.and_eq_false_iff, decide_eq_false_iff_not, decide_eq_false_iff_not]
            simp only [Bool.not_eq_false']
            constructor
            · rintro (h | h | h | h)
              · exact Or.inl (Or.inl (Or.inl (by omega)))
              · exact Or.inl (Or.inl (Or.inr (by omega)))
              · exact Or.inl (Or.inr h)
              · exact Or.inr h
            · rintro (((h | h) | h) | h)
              · exact Or.inl (by omega)
              · exact Or.inr (Or.inl (by omega))
              · exact Or.inr (Or.inr (Or.inl h))
              · exact Or.inr (Or.inr (Or.inr h))
          by_cases hc2 : knownOf t x.o.id = false ∨ (x.o.ins = false ∧ x.o.key ≠ 0)
          · rw [if_pos (hk.2 hc2), if_pos hc2]
          · rw [if_neg (fun h' => hc2 (hk.1 h')), if_neg hc2]
  · rw [if_neg hm, if_neg hm]
theorem Rel.revive (h : Rel t r) (g : Good t) (x : Listed) : Rel (reviveT t x) (rreviveT r x) := by
  have he := h.reviveE g x
  unfold reviveT rreviveT
  rw [he]
  by_cases h0 : Tag.reviveE t x = 0
  · rw [if_pos h0, if_pos h0]
    unfold Tag.reviveE at h0
    by_cases hm : mayE t x.o.time = 0
    · rw [if_pos hm] at h0
      split at h0
      · cases h0
      · rename_i hb
        cases hs : t.slots[x.r.i.toNat]? with
        | none => rw [hs] at h0; cases h0
        | some s =>
          rw [hs] at h0
          simp only at h0
          split at h0
          · cases h0
          · rename_i hc
            have hi : ((x.r.i.toNat : Nat) : Int) = x.r.i := by omega
            refine h.set (s' := ⟨s.last, x.r.g, x.o⟩) hs rfl (h.sorted.addL (h.none_time hm)) (fun y => ?_)
            rw [mem_addL]
            simp only [hi]
            have hx : (⟨⟨x.r.i, x.r.g⟩, x.o⟩ : Listed) = x := rfl
            rw [hx]
            constructor
            · rintro (rfl | hy)
              · exact Or.inr ⟨by omega, rfl⟩
              · refine Or.inl ⟨hy, fun e => ?_⟩
                obtain ⟨j, u, hu, hg', rfl⟩ := h.at_ hy
                simp only at e
                have : j = x.r.i.toNat := by omega
                subst this
                rw [hs] at hu; injection hu with hu; subst hu
                exact hc (Or.inl hg')
            · rintro (⟨hy, _⟩ | ⟨_, rfl⟩)
              · exact Or.inr hy
              · exact Or.inl rfl
    · rw [if_neg hm] at h0
      exact absurd h0 hm
  · rw [if_neg h0, if_neg h0]
    exact h

end
end Go.Proofs.Ytccfjjaljckinaa.Tag
/- The list of a table: all that lives, in the order of time. No conditions. -/
namespace Go.Proofs.Ytccfjjaljckinaa.Tag
open Go.RowKit Go.Lib Go.Shelf Go.Proofs.Ytccfjjaljckinaa.Mem Go.Proofs.Ytccfjjaljckinaa.IMap Go.Proofs.YtccfjjaljckinaaW.PrintWords Go.Proofs.Ytccfjjaljckinaa.PTagActs

def cmpT (x y : Listed) : Int := Lib.compareInt x.o.time y.o.time
instance : Inhabited Listed := ⟨listed0⟩

set_option maxRecDepth 100000 in
set_option maxHeartbeats 2000000 in
theorem closure43 (x y : Listed) (W : World) : Calls Try.prog 43 #[aggL x, aggL y] W fun e w' => e = .returned (.int .i64 (cmpT x y)) ∧ ∃ q os', w' = Sort.grow (W.drewN q) os' := by
  have hcon := fun W' => Try.cmp_Compare_int x.o.time y.o.time W'
  change ∀ W', Calls Try.prog 44 _ _ _ at hcon
  unfold cmpT
  generalize Lib.compareInt x.o.time y.o.time = r at hcon ⊢
  have hu34 := Try.underlying34
  unfold aggL aggListed
  go_enter Try.func43, Try.ntmps43
  go_wp2_with (go_at_call 44; refine (hcon _).mono ?_; rintro e w' ⟨rfl, rfl⟩)
  go_ret
  exact ⟨rfl, 0, _, by rw [Sort.alloc_eq_grow, Sort.alloc_eq_grow, Sort.grow_grow]; rfl⟩
theorem cmp43 (blk off size : Nat) (w : World) : CmpLays Try.prog 43 #[] encL 6 cmpT blk off size w :=
  fun _ _ _ _ x y => closure43 x y _
theorem lt_cmpT (x y : Listed) : ltOf cmpT x y = decide (x.o.time < y.o.time) := by
  unfold ltOf cmpT Lib.compareInt
  by_cases h : x.o.time < y.o.time
  · rw [if_pos h, decide_eq_true h]; rfl
  · rw [if_neg h, decide_eq_false h]
    split <;> decide
theorem swoT : Sort.SWO (ltOf cmpT) := ⟨fun x => by rw [lt_cmpT]; simp, fun x y z h1 h2 => by rw [lt_cmpT] at *; simp at *; omega, fun x y z h1 h2 => by rw [lt_cmpT] at *; simp at *; omega⟩

theorem encL_one (x : Listed) : ∀ v ∈ encL x, v.oneCell' = true := by
  intro v hv
  unfold encL at hv
  simp at hv
  rcases hv with rfl | rfl | rfl | rfl | rfl | rfl <;> rfl
theorem k34_cells {w : World} {x : Listed} {cs : List Value} (h : k34.K w (toS x) cs) : cs = encL x := k34_open h
theorem k34_mkL (w : World) (x : Listed) : k34.K w (toS x) (encL x) := k34_mk w (toS x)

theorem isAgg_e : ∀ w, (isAgg (Try.lSort_ren.t 24)).run Try.prog w = .ok true w := Try.isAgg34
theorem sizeOf_e : ∀ w, (Go.sizeOf (Try.lSort_ren.t 24)).run Try.prog w = .ok 6 w := Try.sizeOf34

/-- A row that holds a list is read as one. -/
theorem C_of_holds {w : World} {R : Nat} {d : Array Listed} (h : Sort.HoldsK encL 6 w R 0 d) (hd : d.size ≤ 1000000) : Kd.C k34 w (some ⟨R, 0, none⟩) d.toList.length (sL d.toList) := by
  refine ⟨by rw [List.length_map], by rw [Array.length_toList]; omega, fun _ => ⟨⟨R, 0, none⟩, rfl, fun j p hj => ?_⟩⟩
  rw [List.getElem?_map] at hj
  cases hx : d.toList[j]? with
  | none => rw [hx] at hj; cases hj
  | some x =>
    rw [hx] at hj; injection hj with hj; subst hj
    obtain ⟨hjl, he⟩ := List.getElem?_eq_some_iff.1 hx
    rw [Array.length_toList] at hjl
    have hx' : d[j]! = x := by rw [getElem!_pos d j hjl]; simpa using he
    refine ⟨encL x, rfl, k34_mkL w x, fun i u hi => ?_⟩
    have hi6 : i < 6 := by have := (List.getElem?_eq_some_iff.1 hi).1; rw [encL_len] at this; exact this
    have := Sort.HoldsK.cell h hjl hi6
    rw [hx'] at this
    obtain ⟨hil, hiu⟩ := List.getElem?_eq_some_iff.1 hi
    have hiu' : (encL x)[i]! = u := by rw [getElem!_pos (encL x) i hil]; exact hiu
    rw [hiu'] at this
    have ha := this.1
    have e : (⟨R, 0, none⟩ : Addr).add (j * 6 + i) = ⟨R, 0 + j * 6 + i, none⟩ := by
      unfold Addr.add
      first | rfl | (simp; omega)
    have hs : k34.sz = 6 := rfl
    rw [hs, e]
    exact ha

/-- The row that a loop gathered, for the sort. -/
theorem holds_of_R {w : World} {base : Nat} {ok : Nat → Prop} {R c : Nat} {l : List Listed} (h : Kd.R k34 34 w base ok (.slice (some ⟨R, 0, none⟩) l.length c) (sL l)) : Sort.HoldsK encL 6 w R 0 l.toArray := by
  have hC := (Kd.R_reads' h).2.2
  obtain ⟨inner, _, ⟨e, _⟩ | ⟨g, cap, cur, e, _, hb, _⟩⟩ := Kd.R_own h
  · cases e
  · injection e with e1 e2 e3
    injection e1 with e1
    injection e1 with e1
    subst e1
    intro j hj
    rw [Sort.size_flatK] at hj
    rw [Sort.get_flatK _ _ _ _ hj]
    simp only [List.size_toArray] at hj
    refine ⟨?_, by simp [World.frozen?, hb]⟩
    have hi : j / 6 < l.length := by omega
    obtain ⟨ad, cs, e, hl, hK, hc⟩ := Kd.C_get hC (toS listed0) ((j / 6 : Nat) : Int) (by omega) (by rw [List.length_map]; omega)
    injection e with e
    subst e
    rw [Int.toNat_natCast] at hK hc
    have hg : (sL l).getD (j / 6) (toS listed0) = toS l[j / 6] := by
      rw [List.getD_eq_getElem?_getD, List.getElem?_map, List.getElem?_eq_getElem hi]; rfl
    rw [hg] at hK
    obtain rfl := k34_cells hK
    have hx : (encL l[j / 6])[j % 6]? = some ((encL l[j / 6])[j % 6]!) := by
      have : j % 6 < (encL l[j / 6]).length := by rw [encL_len]; omega
      rw [getElem!_pos (encL l[j / 6]) (j % 6) this, List.getElem?_eq_getElem this]
    have := hc _ _ hx
    have hd : (l.toArray)[j / 6]! = l[j / 6] := by rw [getElem!_pos _ _ (by simpa using hi)]; simp
    rw [hd]
    have hj6 : j / 6 * 6 + j % 6 = j := by omega
    have hs : k34.sz = 6 := rfl
    rw [hs, hj6] at this
    have e0 : (⟨R, 0, none⟩ : Addr).add j = ⟨R, 0 + j, none⟩ := by
      unfold Addr.add
      first | rfl | (simp; omega)
    rw [e0] at this
    exact this


theorem chg_sort (w : World) (R n : Nat) (d : Array Listed) (os : Array Obj) : Chg (fun k => k = R) w (sortWorldK encL 6 w R 0 n d os) :=
  ⟨rfl, rfl, rfl, size_sortWorldK_c encL 6 w R 0 n d os, fun k hk hn => by
    unfold sortWorldK Sort.grow Sort.putRowK Sort.putRow Sort.mapBlock Sort.ahead
    simp only
    rw [Array.getElem?_append_left (by simpa using hk), Array.getElem?_modify, if_neg (fun e => hn e.symm)]⟩

theorem sorted_of {d d' : Array Listed} (hp : Sort.PermIn 0 d.size d d') (hs : Sort.SortedIn (ltOf cmpT) 0 d.size d') (hn : d.toList.Pairwise (fun a b => a.o.time ≠ b.o.time)) :
    Sorted d'.toList ∧ (∀ x, x ∈ d'.toList ↔ x ∈ d.toList) ∧ d'.size = d.size := by
  obtain ⟨h1, _, h3⟩ := hp
  have e1 : d'.extract 0 d.size = d' := by rw [← h1]; simp
  have e2 : d.extract 0 d.size = d := by simp
  rw [e1, e2] at h3
  refine ⟨?_, fun x => h3.mem_iff, h1⟩
  have hn' : d'.toList.Pairwise (fun a b => a.o.time ≠ b.o.time) := h3.symm.pairwise hn (fun {a b} h => Ne.symm h)
  refine List.pairwise_iff_getElem.2 (fun i j hi hj hij => ?_)
  rw [Array.length_toList] at hi hj
  have := hs i j (Nat.zero_le _) hij (by omega)
  rw [getElem!_pos d' i hi, getElem!_pos d' j hj, lt_cmpT, decide_eq_false_iff_not] at this
  have hne := List.pairwise_iff_getElem.1 hn' i j (by simpa using hi) (by simpa using hj) hij
  simp only [Array.getElem_toList] at hne ⊢
  omega
theorem live_times {t : Tab} (g : Good t) : (liveL t.slots).Pairwise (fun a b => a.o.time ≠ b.o.time) := by
  refine List.Pairwise.imp_of_mem ?_ (live_go t.slots 0).2.1
  intro a b ha hb hab e
  obtain ⟨i, s, hs, hg, rfl⟩ := mem_liveL.1 ha
  obtain ⟨j, u, hu, hg', rfl⟩ := mem_liveL.1 hb
  have := g.times i j s u hs hu hg hg' e
  simp only at hab
  omega

set_option maxRecDepth 100000 in
set_option maxHeartbeats 4000000 in
theorem list_ {w : World} {B M : Nat} {v : Value} {t : Tab} (h : TabV w B M v t) :
    Calls Try.prog 20 #[.pointer (some ⟨B, 0, none⟩)] w fun e w' => ∃ A c L, e = .returned (.slice A L.length c) ∧ L.length ≤ c ∧ Kd.C k34 w' A L.length (sL L) ∧ Sorted L ∧ (∀ x, x ∈ L ↔ x ∈ liveL t.slots) ∧ Below w.heap.size w w' := by
  have HT := Lib.hid h
  have HG := Lib.hid h.good
  have c2 := h.c2
  have hfew := h.good.few
  have HLL := Lib.hid (liveL_len t.slots)
  have hu34 := Try.underlying34
  have hu73 := Try.underlying73
  have hv : ∃ R cap, v = .slice R t.slots.length cap := by
    obtain ⟨A, c, e⟩ := own_slice h.row
    exact ⟨A, c, e⟩
  obtain ⟨A, cap, rfl⟩ := hv
  clear h
  go_enter Try.func20, Try.ntmps20
  go_wp2_with fail
  go_loopw [3, 11] (fun o i wr => ∃ k : Nat, k ≤ t.slots.length ∧ i = .int .i64 k ∧ Kd.R k34 34 wr w.heap.size (fun k => w.heap.size ≤ k) o (sL (liveL (t.slots.take k))) ∧ Below w.heap.size w wr) (fun _ i _ => t.slots.length - (intOf i).toNat)
  case atStart => exact ⟨0, Nat.zero_le _, rfl, Kd.R_nil _ _ _ _ _, Below.refl _ _⟩
  case round =>
    obtain ⟨k, hk, rfl, hR, hB⟩ := hrel
    have HR := Lib.hid hR
    have HB := Lib.hid hB
    have c2 : wr.cell? ⟨B, 2, none⟩ = some (.slice A t.slots.length cap) := (HT.out.fresh hB).c2
    clear hR hB
    by_cases hlt : k < t.slots.length
    · obtain ⟨s, hs⟩ : ∃ s, t.slots[k]? = some s := ⟨_, List.getElem?_eq_getElem hlt⟩
      obtain ⟨R, cap', hv', hRl, hRc, _, _, hcell, hfrz⟩ := (HT.out.fresh HB.out).cells hs
      injection hv' with hv1 hv2 hv3
      subst hv1 hv3
      have r0 := hcell 0 _ rfl
      have r1 := hcell 1 _ rfl
      have r2 := hcell 2 _ rfl
      have r3 := hcell 3 _ rfl
      have r4 := hcell 4 _ rfl
      have r5 := hcell 5 _ rfl
      simp only [Nat.add_zero] at r0
      have HS := Lib.hid (liveL_take hs)
      have HLen : Hid ((sL (liveL (t.slots.take k))).length ≤ 1000000) := Lib.hid (by rw [List.length_map]; have := liveL_len (t.slots.take k); rw [List.length_take] at this; omega)
      clear hcell hfrz hv2 hs
      go_upto_region 5 with (fail)
      refine gwP (fun wy hwy => ?_)
      have HBy : Hid (Below w.heap.size w wy) := Lib.hid (by rw [← hwy]; exact below_alloc HB.out _)
      have HRy : Hid (Kd.R k34 34 wy w.heap.size (fun k => w.heap.size ≤ k) _ (sL (liveL (t.slots.take k)))) := Lib.hid (by rw [← hwy]; exact Kd.R_alloc HR.out _)
      have HXy : Hid (Blk wy wr.heap.size #[.int .i64 s.last, .int .i64 s.gen, .int .i64 s.op.time, .bool s.op.ins, .int .i64 s.op.key, .int .i64 s.op.id] 73) := Lib.hid (by rw [← hwy]; exact Blk.new _ _ _)
      clear hwy HR HB
      have y1 := HXy.out.cell (j := 1) rfl
      have y2 := HXy.out.cell (j := 2) rfl
      have y3 := HXy.out.cell (j := 3) rfl
      have y4 := HXy.out.cell (j := 4) rfl
      have y5 := HXy.out.cell (j := 5) rfl
      by_cases hg : 0 < s.gen
      · have t1 : decide (0 < s.gen) = true := decide_eq_true hg
        have HS' : Hid (sL (liveL (t.slots.take k)) ++ [toS ⟨⟨(k : Int), s.gen⟩, s.op⟩] = sL (liveL (t.slots.take (k + 1)))) := Lib.hid (by rw [HS.out, if_pos hg]; simp)
        clear hg HS
        go_wp2_with (first
          | ((with_reducible refine gate_builtin (b := .append) (xs := #[.tmp 19, .tmp 27]) rfl ?_); at_builtin; refine Kd.R_append k34 (w0 := w) w.heap.size rfl (.tmp 19) (.tmp 27) 26 34 (aggL listed0) 48 rfl Try.underlying26 info34 rfl (by decide) (by decide) _ (sL (liveL (t.slots.take k))) (toS ⟨⟨(k : Int), s.gen⟩, s.op⟩) (encL ⟨⟨(k : Int), s.gen⟩, s.op⟩) (fun k => w.heap.size ≤ k) (fun _ => False) rfl rfl ?aP (fun k hk => hk.elim) ?aF ?aO ?aB ?aS ?aL ?_; (case aP => exact k34_mkM _ _ _ _); (case aF => exact (fun k hk => Nat.le_trans (HBy.out.size) hk)); (case aO => exact HRy.out); (case aB => exact HBy.out); (case aS => exact HBy.out.size); (case aL => have := HLen.out; omega); intro v7 w7 hR7 hB7 _ _; rw [HS'.out] at hR7; have HR7 := Lib.hid hR7; have HB7 := Lib.hid hB7; clear hR7 hB7))
        go_roundw
        case rel => exact ⟨k + 1, by omega, by go_num, HR7.out, HB7.out⟩
        case measure => simp [intOf]; omega
      · have t1 : decide (0 < s.gen) = false := decide_eq_false hg
        have HS' : Hid (liveL (t.slots.take k) = liveL (t.slots.take (k + 1))) := Lib.hid (by rw [HS.out, if_neg hg, List.append_nil])
        clear hg HS
        go_wp2_with fail
        go_roundw
        case rel => exact ⟨k + 1, by omega, by go_num, by rw [← HS'.out]; exact HRy.out, HBy.out⟩
        case measure => simp [intOf]; omega
    · have hkk : k = t.slots.length := by omega
      have hR := HR.out
      have e : t.slots.take k = t.slots := List.take_of_length_le (by omega)
      rw [e] at hR
      obtain ⟨Ao, co, hoe, hco, hC⟩ := Kd.R_reads hR
      subst hoe
      rw [List.length_map] at hR hco hC
      clear HR
      have HC := Lib.hid hC
      have Hco := Lib.hid hco
      rw [List.length_map]
      by_cases h0 : (liveL t.slots).length = 0
      · clear hR
        have hnil : liveL t.slots = [] := List.length_eq_zero_iff.1 h0
        rw [h0]
        have hsf := fun W => Go.Proofs.AnyF.slices_SortFunc_none Try.lSort Ao co (.func (.func 43) #[] #[]) W
        change ∀ W, Calls Try.prog 42 _ _ _ at hsf
        have HSF := Lib.hid hsf
        have Hnil := Lib.hid hnil
        clear hsf hnil h0 e hkk
        go_wp2_with fail
        refine (HSF.out _).mono ?_
        rintro e w' ⟨rfl, rfl⟩
        go_wp2_with fail
        go_ret
        exact ⟨Ao, co, [], rfl, Nat.zero_le _, by rw [← Hnil.out]; exact HC.out, List.Pairwise.nil, fun x => by rw [Hnil.out], HB.out⟩
      · obtain ⟨inner, _, ⟨e', _⟩ | ⟨g, cap2, cur, e', hgb, hb, _⟩⟩ := Kd.R_own hR
        · injection e' with _ e2; exact absurd e2 h0
        · injection e' with e1 e2 e3
          subst e1
          have hH := holds_of_R hR
          have hN : (liveL t.slots).toArray.size ≤ 1000000 := by have := HLL.out; simp only [List.size_toArray]; omega
          have eg : ∀ args w, (callFunc 43 args).run Try.prog w = .ok (.enter 43 args) w := enters_of Try.func43 (by kernel_rfl) rfl
          have hsf := Go.Proofs.AnyQ.slices_SortFunc Try.lSort 6 isAgg_e sizeOf_e encL (fun _ => rfl) encL_one cmpT swoT 43 #[] g 0 co (liveL t.slots).toArray wr eg (cmp43 _ _ _ _) hH (lt_of_block hb) (by omega)
          change Calls Try.prog 42 #[.slice (some ⟨g, 0, none⟩) (liveL t.slots).length co, .func (.func 43) #[] #[]] wr _ at hsf
          have HSF := Lib.hid hsf
          have HH := Lib.hid hH
          have Hgl := Lib.hid (lt_of_block hb)
          have Hgb := Lib.hid hgb
          have HN := Lib.hid hN
          have HPW := Lib.hid (live_times HG.out)
          clear hsf hH hb hgb hN eg hR h0 e hkk HC e2 e3
          go_wp2_with fail
          refine HSF.out.mono ?_
          rintro e w' ⟨rfl, d', n, os, hp, hs, rfl⟩
          obtain ⟨r1, r2, r3⟩ := sorted_of hp hs HPW.out
          have HC2 := Lib.hid (C_of_holds (holdsK_sortWorldK_c encL 6 wr g 0 _ d' n os HH.out Hgl.out r3) (by have := HN.out; omega))
          have HCh := Lib.hid (chg_sort wr g n d' os)
          have Hln : Hid (d'.toList.length = (liveL t.slots).length) := Lib.hid (by rw [Array.length_toList, r3]; simp)
          have Hr1 := Lib.hid r1
          have Hr2 := Lib.hid r2
          clear HSF hp hs r1 r2 r3
          generalize sortWorldK encL 6 wr g 0 n d' os = wz at *
          go_wp2_with fail
          go_ret
          refine ⟨some ⟨g, 0, none⟩, co, d'.toList, by rw [Hln.out]; rfl, by rw [Hln.out]; exact Hco.out, HC2.out, Hr1.out, fun x => Hr2.out x, ?_⟩
          exact Chg.onto HB.out HCh.out (Nat.le_refl _) (fun k hk e => by have := Hgb.out; omega)
end Go.Proofs.Ytccfjjaljckinaa.Tag
/- A table and the document's: they tell the same. No conditions. -/
namespace Go.Proofs.Ytccfjjaljckinaa.Tag
open Go.RowKit Go.Lib Go.Shelf Go.Proofs.Ytccfjjaljckinaa.Mem Go.Proofs.Ytccfjjaljckinaa.IMap Go.Proofs.YtccfjjaljckinaaW.PrintWords Go.Proofs.YtccfjjaljckinaaW.PrintLast Go.Proofs.YtccfjjaljckinaaW.PrintMore Go.Proofs.Ytccfjjaljckinaa.PTagActs
set_option linter.unusedVariables false

theorem drewN_below' (w : World) (n : Nat) : Below w.heap.size w (w.drewN n) := bdn (Below.refl _ _) n
section
variable {w : World} {O : Nat → Prop} {B : Nat} {t : Tab}
theorem lenAt (h : TabAt w O B t) : Calls Try.prog 24 #[.pointer (some ⟨B, 0, none⟩)] w fun e w' => e = .returned (.int .i64 (liveN t.slots)) ∧ w' = w := by
  obtain ⟨M, v, h, _⟩ := h
  exact len h
theorem lenAt' {n : Nat} (h : TabAt w O B t) (he : liveN t.slots = n) : Calls Try.prog 24 #[.pointer (some ⟨B, 0, none⟩)] w fun e w' => e = .returned (.int .i64 n) ∧ w' = w := by
  subst he
  exact lenAt h
theorem capAt (h : TabAt w O B t) : Calls Try.prog 28 #[.pointer (some ⟨B, 0, none⟩)] w fun e w' => e = .returned (.int .i64 t.cap) ∧ w' = w := by
  obtain ⟨M, v, h, _⟩ := h
  exact capOf h
theorem serAt (h : TabAt w O B t) : Calls Try.prog 15 #[.pointer (some ⟨B, 0, none⟩)] w fun e w' => e = .returned (.int .i64 t.serial) ∧ w' = w := by
  obtain ⟨M, v, h, _⟩ := h
  exact serialOf h
theorem lastsAt (h : TabAt w O B t) : Calls Try.prog 21 #[.pointer (some ⟨B, 0, none⟩)] w fun e w' => ∃ A c, e = .returned (.slice A (lastsOf t).length c) ∧ (lastsOf t).length ≤ c ∧ Kd.C (Kd.int .i64) w' A (lastsOf t).length (lastsOf t) ∧ Below w.heap.size w w' := by
  obtain ⟨M, v, h, _⟩ := h
  refine (lasts_ h).mono ?_
  rintro e w' ⟨A, c, rfl, hR, hb⟩
  have hl : (lastsOf t).length = t.slots.length := List.length_map _
  obtain ⟨h1, h2, h3⟩ := Kd.R_reads' hR
  exact ⟨A, c, by rw [hl], by omega, h3, hb⟩
theorem listAt (h : TabAt w O B t) : Calls Try.prog 20 #[.pointer (some ⟨B, 0, none⟩)] w fun e w' => ∃ A c L, e = .returned (.slice A L.length c) ∧ L.length ≤ c ∧ Kd.C k34 w' A L.length (sL L) ∧ Sorted L ∧ (∀ x, x ∈ L ↔ x ∈ liveL t.slots) ∧ Below w.heap.size w w' := by
  obtain ⟨M, v, h, _⟩ := h
  exact list_ h
theorem refInts_ {A A' : Option Addr} {c c' : Nat} {l : List Int} (h : Kd.C (Kd.int .i64) w A l.length l) (hc : l.length ≤ c) (h' : Kd.C (Kd.int .i64) w A' l.length l) (hc' : l.length ≤ c') (hl : l.length ≤ 1000000) :
    Calls Try.prog 36 #[.slice A l.length c, .slice A' l.length c'] w fun e w' => e = .returned (.bool true) ∧ ∃ k, w' = w.drewN k :=
  (whilomref01_Ints.calls (l.length + 1) A c l A' c' l true w h hc h' hc' (ints_self l hl)).mono fun e w' ⟨a, b⟩ => ⟨a, b.out⟩
theorem refSame_ {A A' : Option Addr} {c c' : Nat} {l : List Listed} (h : Kd.C k34 w A l.length (sL l)) (hc : l.length ≤ c) (h' : Kd.C k34 w A' l.length (sL l)) (hc' : l.length ≤ c') (hl : l.length ≤ 1000000) :
    Calls Try.prog 37 #[.slice A l.length c, .slice A' l.length c'] w fun e w' => e = .returned (.bool true) ∧ ∃ k, w' = w.drewN k := by
  have := whilomref16_Same.calls (l.length + 1) A c (sL l) A' c' (sL l) true w (by rw [List.length_map]; exact h) (by rw [List.length_map]; exact hc) (by rw [List.length_map]; exact h') (by rw [List.length_map]; exact hc') (same_self l hl)
  rw [List.length_map] at this
  exact this.mono fun e w' ⟨a, b⟩ => ⟨a, b.out⟩
end
noncomputable def T18_1 : Bool × List (List Nat × List Nat) := rtab .any (opsOf Try.f18 1)
theorem tab18_1 : rtab .any (opsOf Try.f18 1) = T18_1 := rfl
theorem bits18_1 : waitsOk T18_1.2 [0, 1, 0, 4, 12, 28, 60, 127, 255, 511, 1023, 511, 2559, 6655, 14847, 32767, 65535, 131071, 262143, 524287, 262143, 1310719, 3407871, 7602175, 16777215, 33554431, 67108863, 134217727, 268435455, 134217727, 671088639, 1744830463, 3892314111, 8589934591, 17179869183, 34359738367, 68719476735, 137438953471, 68719476735, 343597383679, 893353197567, 1992864825343, 4398046511103, 8796093022207, 17592186044415] = true := by kernel_rfl
set_option maxRecDepth 100000 in
set_option maxHeartbeats 4000000 in
theorem alikeAt {w : World} {O S : Nat → Prop} {B D : Nat} {t : Tab} {r : RTab} (ht : TabAt w O B t) (hr : RefAt w S D r) (hrel : Rel t r) :
    Calls Try.prog 18 #[.pointer (some ⟨B, 0, none⟩), .pointer (some ⟨D, 0, none⟩)] w fun e w' => e = .returned (.bool true) ∧ Below w.heap.size w w' := by
  have hlen := hrel.len
  have hfew := ht.good.few
  have hle := liveN_le t.slots
  obtain ⟨rc, rs, rl, l⟩ := r
  obtain ⟨e1, e2, e3, hso, hm⟩ := hrel
  simp only at e1 e2 e3 hso hm hlen
  subst e1 e2 e3
  obtain ⟨A1, c1, A2, c2, hb, h1, h2, h3, h4, h5⟩ := hr
  simp only at hb h1 h2 h3 h4
  have HD : Hid (Blk w.drew D #[.int .i64 t.cap, .int .i64 t.serial, .slice A1 (lastsOf t).length c1, .slice A2 l.length c2] 49) := Lib.hid hb
  have HTab : Hid (TabAt w.drew O B t) := Lib.hid (ht.below (Below.refl _ _).drew)
  have H3 := Lib.hid (Kd.F_drew h3)
  have H4 := Lib.hid (Kd.F_drew h4)
  have H1 := Lib.hid h1
  have H2 := Lib.hid h2
  have HE : Hid (liveN t.slots = l.length) := Lib.hid hlen.symm
  have HL1 : Hid ((lastsOf t).length ≤ 1000000) := Lib.hid (by unfold lastsOf; rw [List.length_map]; exact hfew)
  have HL2 : Hid (l.length ≤ 1000000) := Lib.hid (by omega)
  have HSo := Lib.hid hso
  have HM := Lib.hid hm
  have HBd : Hid (Below w.heap.size w w.drew) := Lib.hid (Below.refl _ _).drew
  clear hlen hfew hle hso hm hb h1 h2 h3 h4 h5 ht
  go_enter Try.func18, Try.ntmps18
  go_wp2_with fail
  refine start_ (n := 45) (S := fun w' => w'.cell? ⟨D, 0, none⟩ = some (.int .i64 t.cap) ∧ w'.cell? ⟨D, 1, none⟩ = some (.int .i64 t.serial) ∧ w'.cell? ⟨D, 2, none⟩ = some (.slice A1 (lastsOf t).length c1) ∧ w'.cell? ⟨D, 3, none⟩ = some (.slice A2 l.length c2)) (ds := []) #[false, false, false, false, false, false, false, false, false, false, false, false, false, false, false, false, false, false, false, false, false, false, false, false, false, false, false, false, false, false, false, false, false, false, false, false, false, false, false, false, false, false, false, false, false] (by kernel_rfl) rfl rfl ⟨HD.out.cell (j := 0) rfl, HD.out.cell (j := 1) rfl, HD.out.cell (j := 2) rfl, HD.out.cell (j := 3) rfl⟩ (fun hHeld => ?_); refine with_tabW tab18_1 bits18_1 (fun HT_ HW_ => ?_)
  generalize w.drew = wd at HTab HD HBd H3 H4 hHeld ⊢
  refine pure_ (i := 0) (N := some 5) (v := ?_) (a' := ?_) #[true, false, false, false, false, false, false, false, false, false, false, false, false, false, false, false, false, false, false, false, false, false, false, false, false, false, false, false, false, false, false, false, false, false, false, false, false, false, false, false, false, false, false, false, false] rfl rfl (any_of HT_.out (by kernel_rfl)) (fun _ _ _ h => h) (Or.inl ⟨by rfl, ?_⟩) ?_ ?_
  rotate_left
  · intro w'
    go_simp
    with_reducible rfl
  rotate_left
  · simp only [Act.put, List.setIfInBounds_toArray, List.set_cons_zero, List.set_cons_succ]
    rfl
  refine pure_ (i := 2) (N := some 7) (v := ?_) (a' := ?_) #[true, false, true, false, false, false, false, false, false, false, false, false, false, false, false, false, false, false, false, false, false, false, false, false, false, false, false, false, false, false, false, false, false, false, false, false, false, false, false, false, false, false, false, false, false] rfl rfl (any_of HT_.out (by kernel_rfl)) (fun _ _ _ h => h) (Or.inl ⟨by rfl, ?_⟩) ?_ ?_
  rotate_left
  · intro w'
    go_simp
    with_reducible rfl
  rotate_left
  · simp only [Act.put, List.setIfInBounds_toArray, List.set_cons_zero, List.set_cons_succ]
    rfl
  refine pure_ (i := 3) (N := some 8) (v := ?_) (a' := ?_) #[true, false, true, true, false, false, false, false, false, false, false, false, false, false, false, false, false, false, false, false, false, false, false, false, false, false, false, false, false, false, false, false, false, false, false, false, false, false, false, false, false, false, false, false, false] rfl rfl (any_of HT_.out (by kernel_rfl)) (fun _ _ _ h => h) (Or.inl ⟨by rfl, ?_⟩) ?_ ?_
  rotate_left
  · intro w'
    go_simp
    with_reducible rfl
  rotate_left
  · simp only [Act.put, List.setIfInBounds_toArray, List.set_cons_zero, List.set_cons_succ]
    rfl
  refine pure_ (i := 4) (N := some 9) (v := ?_) (a' := ?_) #[true, false, true, true, true, false, false, false, false, false, false, false, false, false, false, false, false, false, false, false, false, false, false, false, false, false, false, false, false, false, false, false, false, false, false, false, false, false, false, false, false, false, false, false, false] rfl rfl (any_of HT_.out (by kernel_rfl)) (fun _ _ _ h => h) (Or.inl ⟨by rfl, ?_⟩) ?_ ?_
  rotate_left
  · intro w'
    go_simp
    with_reducible rfl
  rotate_left
  · simp only [Act.put, List.setIfInBounds_toArray, List.set_cons_zero, List.set_cons_succ]
    rfl
  refine take_ (i := 5) (N := some 10) (v := ?_) (a' := ?_) #[true, false, true, true, true, true, false, false, false, false, false, false, false, false, false, false, false, false, false, false, false, false, false, false, false, false, false, false, false, false, false, false, false, false, false, false, false, false, false, false, false, false, false, false, false] rfl rfl (take_ofW HT_.out HW_.out (by kernel_rfl)) (fun _ _ _ h => h) (Or.inl ⟨by rfl, ?_⟩) hHeld ?_ ?_
  rotate_left
  · rintro w' ⟨s0, s1, s2, s3⟩
    go_simp
    with_reducible rfl
  rotate_left
  · simp only [Act.put, List.setIfInBounds_toArray, List.set_cons_zero, List.set_cons_succ]
    rfl
  refine pure_ (i := 6) (N := some 11) (v := ?_) (a' := ?_) #[true, false, true, true, true, true, true, false, false, false, false, false, false, false, false, false, false, false, false, false, false, false, false, false, false, false, false, false, false, false, false, false, false, false, false, false, false, false, false, false, false, false, false, false, false] rfl rfl (any_of HT_.out (by kernel_rfl)) (fun _ _ _ h => h) (Or.inl ⟨by rfl, ?_⟩) ?_ ?_
  rotate_left
  · intro w'
    go_simp
    with_reducible rfl
  rotate_left
  · simp only [Act.put, List.setIfInBounds_toArray, List.set_cons_zero, List.set_cons_succ]
    rfl
  refine one_ (i := 1) (N := some 6) #[true, true, true, true, true, true, true, false, false, false, false, false, false, false, false, false, false, false, false, false, false, false, false, false, false, false, false, false, false, false, false, false, false, false, false, false, false, false, false, false, false, false, false, false, false] rfl rfl (one_of HT_.out (by kernel_rfl)) (by decide) (fun K hK => ?_)
  refine goes_ Try.func24 (by kernel_rfl) rfl #[.pointer (some ⟨B, 0, none⟩)] (by rfl) rfl rfl (by (try simp only [List.map_toArray, List.map_cons, List.map_nil]); first | done | rfl) ?_
  refine (lenAt' HTab.out HE.out).mono ?_
  rintro e w' ⟨rfl, rfl⟩
  refine ⟨_, rfl, ?_⟩
  refine hK.out _ _ hHeld (fun hHeld => ?_)
  clear hK K
  refine norm_ (a' := ?_) ?_ ?_
  rotate_left
  · show Act.put _ (some 6) _ = _
    simp only [Act.put, List.setIfInBounds_toArray, List.set_cons_zero, List.set_cons_succ]
    rfl
  refine pure_ (i := 7) (N := some 12) (v := ?_) (a' := ?_) #[true, true, true, true, true, true, true, true, false, false, false, false, false, false, false, false, false, false, false, false, false, false, false, false, false, false, false, false, false, false, false, false, false, false, false, false, false, false, false, false, false, false, false, false, false] rfl rfl (any_of HT_.out (by kernel_rfl)) (fun _ _ _ h => h) (Or.inl ⟨by rfl, ?_⟩) ?_ ?_
  rotate_left
  · intro w'
    go_simp
    with_reducible rfl
  rotate_left
  · simp only [Act.put, List.setIfInBounds_toArray, List.set_cons_zero, List.set_cons_succ]
    rfl
  refine pure_ (i := 8) (N := some 13) (v := ?_) (a' := ?_) #[true, true, true, true, true, true, true, true, true, false, false, false, false, false, false, false, false, false, false, false, false, false, false, false, false, false, false, false, false, false, false, false, false, false, false, false, false, false, false, false, false, false, false, false, false] rfl rfl (any_of HT_.out (by kernel_rfl)) (fun _ _ _ h => h) (Or.inl ⟨by rfl, ?_⟩) ?_ ?_
  rotate_left
  · intro w'
    go_simp
    with_reducible rfl
  rotate_left
  · simp only [Act.put, List.setIfInBounds_toArray, List.set_cons_zero, List.set_cons_succ]
    rfl
  refine pure_ (i := 9) (N := some 14) (v := ?_) (a' := ?_) #[true, true, true, true, true, true, true, true, true, true, false, false, false, false, false, false, false, false, false, false, false, false, false, false, false, false, false, false, false, false, false, false, false, false, false, false, false, false, false, false, false, false, false, false, false] rfl rfl (any_of HT_.out (by kernel_rfl)) (fun _ _ _ h => h) (Or.inl ⟨by rfl, ?_⟩) ?_ ?_
  rotate_left
  · intro w'
    go_simp
    with_reducible rfl
  rotate_left
  · simp only [Act.put, List.setIfInBounds_toArray, List.set_cons_zero, List.set_cons_succ]
    rfl
  refine pure_ (i := 11) (N := some 16) (v := ?_) (a' := ?_) #[true, true, true, true, true, true, true, true, true, true, false, true, false, false, false, false, false, false, false, false, false, false, false, false, false, false, false, false, false, false, false, false, false, false, false, false, false, false, false, false, false, false, false, false, false] rfl rfl (any_of HT_.out (by kernel_rfl)) (fun _ _ _ h => h) (Or.inl ⟨by rfl, ?_⟩) ?_ ?_
  rotate_left
  · intro w'
    go_simp
    with_reducible rfl
  rotate_left
  · simp only [Act.put, List.setIfInBounds_toArray, List.set_cons_zero, List.set_cons_succ]
    rfl
  refine pure_ (i := 12) (N := some 17) (v := ?_) (a' := ?_) #[true, true, true, true, true, true, true, true, true, true, false, true, true, false, false, false, false, false, false, false, false, false, false, false, false, false, false, false, false, false, false, false, false, false, false, false, false, false, false, false, false, false, false, false, false] rfl rfl (any_of HT_.out (by kernel_rfl)) (fun _ _ _ h => h) (Or.inl ⟨by rfl, ?_⟩) ?_ ?_
  rotate_left
  · intro w'
    go_simp
    with_reducible rfl
  rotate_left
  · simp only [Act.put, List.setIfInBounds_toArray, List.set_cons_zero, List.set_cons_succ]
    rfl
  refine pure_ (i := 13) (N := some 18) (v := ?_) (a' := ?_) #[true, true, true, true, true, true, true, true, true, true, false, true, true, true, false, false, false, false, false, false, false, false, false, false, false, false, false, false, false, false, false, false, false, false, false, false, false, false, false, false, false, false, false, false, false] rfl rfl (any_of HT_.out (by kernel_rfl)) (fun _ _ _ h => h) (Or.inl ⟨by rfl, ?_⟩) ?_ ?_
  rotate_left
  · intro w'
    go_simp
    with_reducible rfl
  rotate_left
  · simp only [Act.put, List.setIfInBounds_toArray, List.set_cons_zero, List.set_cons_succ]
    rfl
  refine take_ (i := 14) (N := some 19) (v := ?_) (a' := ?_) #[true, true, true, true, true, true, true, true, true, true, false, true, true, true, true, false, false, false, false, false, false, false, false, false, false, false, false, false, false, false, false, false, false, false, false, false, false, false, false, false, false, false, false, false, false] rfl rfl (take_ofW HT_.out HW_.out (by kernel_rfl)) (fun _ _ _ h => h) (Or.inl ⟨by rfl, ?_⟩) hHeld ?_ ?_
  rotate_left
  · rintro w' ⟨s0, s1, s2, s3⟩
    go_simp
    with_reducible rfl
  rotate_left
  · simp only [Act.put, List.setIfInBounds_toArray, List.set_cons_zero, List.set_cons_succ]
    rfl
  refine one_ (i := 10) (N := some 15) #[true, true, true, true, true, true, true, true, true, true, true, true, true, true, true, false, false, false, false, false, false, false, false, false, false, false, false, false, false, false, false, false, false, false, false, false, false, false, false, false, false, false, false, false, false] rfl rfl (one_of HT_.out (by kernel_rfl)) (by decide) (fun K hK => ?_)
  refine goes_ Try.func28 (by kernel_rfl) rfl #[.pointer (some ⟨B, 0, none⟩)] (by rfl) rfl rfl (by (try simp only [List.map_toArray, List.map_cons, List.map_nil]); first | done | rfl) ?_
  refine (capAt HTab.out).mono ?_
  rintro e w' ⟨rfl, rfl⟩
  refine ⟨_, rfl, ?_⟩
  refine hK.out _ _ hHeld (fun hHeld => ?_)
  clear hK K
  refine norm_ (a' := ?_) ?_ ?_
  rotate_left
  · show Act.put _ (some 15) _ = _
    simp only [Act.put, List.setIfInBounds_toArray, List.set_cons_zero, List.set_cons_succ]
    rfl
  refine pure_ (i := 15) (N := some 20) (v := ?_) (a' := ?_) #[true, true, true, true, true, true, true, true, true, true, true, true, true, true, true, true, false, false, false, false, false, false, false, false, false, false, false, false, false, false, false, false, false, false, false, false, false, false, false, false, false, false, false, false, false] rfl rfl (any_of HT_.out (by kernel_rfl)) (fun _ _ _ h => h) (Or.inl ⟨by rfl, ?_⟩) ?_ ?_
  rotate_left
  · intro w'
    go_simp
    with_reducible rfl
  rotate_left
  · simp only [Act.put, List.setIfInBounds_toArray, List.set_cons_zero, List.set_cons_succ]
    rfl
  refine pure_ (i := 16) (N := some 21) (v := ?_) (a' := ?_) #[true, true, true, true, true, true, true, true, true, true, true, true, true, true, true, true, true, false, false, false, false, false, false, false, false, false, false, false, false, false, false, false, false, false, false, false, false, false, false, false, false, false, false, false, false] rfl rfl (any_of HT_.out (by kernel_rfl)) (fun _ _ _ h => h) (Or.inl ⟨by rfl, ?_⟩) ?_ ?_
  rotate_left
  · intro w'
    go_simp
    with_reducible rfl
  rotate_left
  · simp only [Act.put, List.setIfInBounds_toArray, List.set_cons_zero, List.set_cons_succ]
    rfl
  refine pure_ (i := 17) (N := some 22) (v := ?_) (a' := ?_) #[true, true, true, true, true, true, true, true, true, true, true, true, true, true, true, true, true, true, false, false, false, false, false, false, false, false, false, false, false, false, false, false, false, false, false, false, false, false, false, false, false, false, false, false, false] rfl rfl (any_of HT_.out (by kernel_rfl)) (fun _ _ _ h => h) (Or.inl ⟨by rfl, ?_⟩) ?_ ?_
  rotate_left
  · intro w'
    go_simp
    with_reducible rfl
  rotate_left
  · simp only [Act.put, List.setIfInBounds_toArray, List.set_cons_zero, List.set_cons_succ]
    rfl
  refine pure_ (i := 18) (N := some 23) (v := ?_) (a' := ?_) #[true, true, true, true, true, true, true, true, true, true, true, true, true, true, true, true, true, true, true, false, false, false, false, false, false, false, false, false, false, false, false, false, false, false, false, false, false, false, false, false, false, false, false, false, false] rfl rfl (any_of HT_.out (by kernel_rfl)) (fun _ _ _ h => h) (Or.inl ⟨by rfl, ?_⟩) ?_ ?_
  rotate_left
  · intro w'
    go_simp
    with_reducible rfl
  rotate_left
  · simp only [Act.put, List.setIfInBounds_toArray, List.set_cons_zero, List.set_cons_succ]
    rfl
  refine pure_ (i := 20) (N := some 25) (v := ?_) (a' := ?_) #[true, true, true, true, true, true, true, true, true, true, true, true, true, true, true, true, true, true, true, false, true, false, false, false, false, false, false, false, false, false, false, false, false, false, false, false, false, false, false, false, false, false, false, false, false] rfl rfl (any_of HT_.out (by kernel_rfl)) (fun _ _ _ h => h) (Or.inl ⟨by rfl, ?_⟩) ?_ ?_
  rotate_left
  · intro w'
    go_simp
    with_reducible rfl
  rotate_left
  · simp only [Act.put, List.setIfInBounds_toArray, List.set_cons_zero, List.set_cons_succ]
    rfl
  refine pure_ (i := 21) (N := some 26) (v := ?_) (a' := ?_) #[true, true, true, true, true, true, true, true, true, true, true, true, true, true, true, true, true, true, true, false, true, true, false, false, false, false, false, false, false, false, false, false, false, false, false, false, false, false, false, false, false, false, false, false, false] rfl rfl (any_of HT_.out (by kernel_rfl)) (fun _ _ _ h => h) (Or.inl ⟨by rfl, ?_⟩) ?_ ?_
  rotate_left
  · intro w'
    go_simp
    with_reducible rfl
  rotate_left
  · simp only [Act.put, List.setIfInBounds_toArray, List.set_cons_zero, List.set_cons_succ]
    rfl
  refine pure_ (i := 22) (N := some 27) (v := ?_) (a' := ?_) #[true, true, true, true, true, true, true, true, true, true, true, true, true, true, true, true, true, true, true, false, true, true, true, false, false, false, false, false, false, false, false, false, false, false, false, false, false, false, false, false, false, false, false, false, false] rfl rfl (any_of HT_.out (by kernel_rfl)) (fun _ _ _ h => h) (Or.inl ⟨by rfl, ?_⟩) ?_ ?_
  rotate_left
  · intro w'
    go_simp
    with_reducible rfl
  rotate_left
  · simp only [Act.put, List.setIfInBounds_toArray, List.set_cons_zero, List.set_cons_succ]
    rfl
  refine take_ (i := 23) (N := some 28) (v := ?_) (a' := ?_) #[true, true, true, true, true, true, true, true, true, true, true, true, true, true, true, true, true, true, true, false, true, true, true, true, false, false, false, false, false, false, false, false, false, false, false, false, false, false, false, false, false, false, false, false, false] rfl rfl (take_ofW HT_.out HW_.out (by kernel_rfl)) (fun _ _ _ h => h) (Or.inl ⟨by rfl, ?_⟩) hHeld ?_ ?_
  rotate_left
  · rintro w' ⟨s0, s1, s2, s3⟩
    go_simp
    with_reducible rfl
  rotate_left
  · simp only [Act.put, List.setIfInBounds_toArray, List.set_cons_zero, List.set_cons_succ]
    rfl
  refine one_ (i := 19) (N := some 24) #[true, true, true, true, true, true, true, true, true, true, true, true, true, true, true, true, true, true, true, true, true, true, true, true, false, false, false, false, false, false, false, false, false, false, false, false, false, false, false, false, false, false, false, false, false] rfl rfl (one_of HT_.out (by kernel_rfl)) (by decide) (fun K hK => ?_)
  refine goes_ Try.func15 (by kernel_rfl) rfl #[.pointer (some ⟨B, 0, none⟩)] (by rfl) rfl rfl (by (try simp only [List.map_toArray, List.map_cons, List.map_nil]); first | done | rfl) ?_
  refine (serAt HTab.out).mono ?_
  rintro e w' ⟨rfl, rfl⟩
  refine ⟨_, rfl, ?_⟩
  refine hK.out _ _ hHeld (fun hHeld => ?_)
  clear hK K
  refine norm_ (a' := ?_) ?_ ?_
  rotate_left
  · show Act.put _ (some 24) _ = _
    simp only [Act.put, List.setIfInBounds_toArray, List.set_cons_zero, List.set_cons_succ]
    rfl
  refine pure_ (i := 24) (N := some 29) (v := ?_) (a' := ?_) #[true, true, true, true, true, true, true, true, true, true, true, true, true, true, true, true, true, true, true, true, true, true, true, true, true, false, false, false, false, false, false, false, false, false, false, false, false, false, false, false, false, false, false, false, false] rfl rfl (any_of HT_.out (by kernel_rfl)) (fun _ _ _ h => h) (Or.inl ⟨by rfl, ?_⟩) ?_ ?_
  rotate_left
  · intro w'
    go_simp
    with_reducible rfl
  rotate_left
  · simp only [Act.put, List.setIfInBounds_toArray, List.set_cons_zero, List.set_cons_succ]
    rfl
  refine pure_ (i := 25) (N := some 30) (v := ?_) (a' := ?_) #[true, true, true, true, true, true, true, true, true, true, true, true, true, true, true, true, true, true, true, true, true, true, true, true, true, true, false, false, false, false, false, false, false, false, false, false, false, false, false, false, false, false, false, false, false] rfl rfl (any_of HT_.out (by kernel_rfl)) (fun _ _ _ h => h) (Or.inl ⟨by rfl, ?_⟩) ?_ ?_
  rotate_left
  · intro w'
    go_simp
    with_reducible rfl
  rotate_left
  · simp only [Act.put, List.setIfInBounds_toArray, List.set_cons_zero, List.set_cons_succ]
    rfl
  refine pure_ (i := 26) (N := some 31) (v := ?_) (a' := ?_) #[true, true, true, true, true, true, true, true, true, true, true, true, true, true, true, true, true, true, true, true, true, true, true, true, true, true, true, false, false, false, false, false, false, false, false, false, false, false, false, false, false, false, false, false, false] rfl rfl (any_of HT_.out (by kernel_rfl)) (fun _ _ _ h => h) (Or.inl ⟨by rfl, ?_⟩) ?_ ?_
  rotate_left
  · intro w'
    go_simp
    with_reducible rfl
  rotate_left
  · simp only [Act.put, List.setIfInBounds_toArray, List.set_cons_zero, List.set_cons_succ]
    rfl
  refine pure_ (i := 27) (N := some 32) (v := ?_) (a' := ?_) #[true, true, true, true, true, true, true, true, true, true, true, true, true, true, true, true, true, true, true, true, true, true, true, true, true, true, true, true, false, false, false, false, false, false, false, false, false, false, false, false, false, false, false, false, false] rfl rfl (any_of HT_.out (by kernel_rfl)) (fun _ _ _ h => h) (Or.inl ⟨by rfl, ?_⟩) ?_ ?_
  rotate_left
  · intro w'
    go_simp
    with_reducible rfl
  rotate_left
  · simp only [Act.put, List.setIfInBounds_toArray, List.set_cons_zero, List.set_cons_succ]
    rfl
  refine pure_ (i := 29) (N := some 34) (v := ?_) (a' := ?_) #[true, true, true, true, true, true, true, true, true, true, true, true, true, true, true, true, true, true, true, true, true, true, true, true, true, true, true, true, false, true, false, false, false, false, false, false, false, false, false, false, false, false, false, false, false] rfl rfl (any_of HT_.out (by kernel_rfl)) (fun _ _ _ h => h) (Or.inl ⟨by rfl, ?_⟩) ?_ ?_
  rotate_left
  · intro w'
    go_simp
    with_reducible rfl
  rotate_left
  · simp only [Act.put, List.setIfInBounds_toArray, List.set_cons_zero, List.set_cons_succ]
    rfl
  refine pure_ (i := 30) (N := some 35) (v := ?_) (a' := ?_) #[true, true, true, true, true, true, true, true, true, true, true, true, true, true, true, true, true, true, true, true, true, true, true, true, true, true, true, true, false, true, true, false, false, false, false, false, false, false, false, false, false, false, false, false, false] rfl rfl (any_of HT_.out (by kernel_rfl)) (fun _ _ _ h => h) (Or.inl ⟨by rfl, ?_⟩) ?_ ?_
  rotate_left
  · intro w'
    go_simp
    with_reducible rfl
  rotate_left
  · simp only [Act.put, List.setIfInBounds_toArray, List.set_cons_zero, List.set_cons_succ]
    rfl
  refine pure_ (i := 31) (N := some 36) (v := ?_) (a' := ?_) #[true, true, true, true, true, true, true, true, true, true, true, true, true, true, true, true, true, true, true, true, true, true, true, true, true, true, true, true, false, true, true, true, false, false, false, false, false, false, false, false, false, false, false, false, false] rfl rfl (any_of HT_.out (by kernel_rfl)) (fun _ _ _ h => h) (Or.inl ⟨by rfl, ?_⟩) ?_ ?_
  rotate_left
  · intro w'
    go_simp
    with_reducible rfl
  rotate_left
  · simp only [Act.put, List.setIfInBounds_toArray, List.set_cons_zero, List.set_cons_succ]
    rfl
  refine take_ (i := 32) (N := some 37) (v := ?_) (a' := ?_) #[true, true, true, true, true, true, true, true, true, true, true, true, true, true, true, true, true, true, true, true, true, true, true, true, true, true, true, true, false, true, true, true, true, false, false, false, false, false, false, false, false, false, false, false, false] rfl rfl (take_ofW HT_.out HW_.out (by kernel_rfl)) (fun _ _ _ h => h) (Or.inl ⟨by rfl, ?_⟩) hHeld ?_ ?_
  rotate_left
  · rintro w' ⟨s0, s1, s2, s3⟩
    go_simp
    with_reducible rfl
  rotate_left
  · simp only [Act.put, List.setIfInBounds_toArray, List.set_cons_zero, List.set_cons_succ]
    rfl
  refine one_ (i := 28) (N := some 33) #[true, true, true, true, true, true, true, true, true, true, true, true, true, true, true, true, true, true, true, true, true, true, true, true, true, true, true, true, true, true, true, true, true, false, false, false, false, false, false, false, false, false, false, false, false] rfl rfl (one_of HT_.out (by kernel_rfl)) (by decide) (fun K hK => ?_)
  refine goes_ Try.func21 (by kernel_rfl) rfl #[.pointer (some ⟨B, 0, none⟩)] (by rfl) rfl rfl (by (try simp only [List.map_toArray, List.map_cons, List.map_nil]); first | done | rfl) ?_
  refine (lastsAt HTab.out).mono ?_
  rintro e w4 ⟨A5, c5, rfl, g1, hC, hb⟩
  refine ⟨_, rfl, ?_⟩
  replace HTab := Lib.hid (HTab.out.below hb)
  replace HD := Lib.hid (HD.out.below hb)
  replace HBd := Lib.hid (HBd.out.trans (hb.mono HBd.out.size))
  replace H3 := Lib.hid (Kd.F_below H3.out hb)
  replace H4 := Lib.hid (Kd.F_below H4.out hb)
  have HC5 := Lib.hid hC
  have G1 := Lib.hid g1
  clear hb hC g1
  refine hK.out _ _ ⟨HD.out.cell (j := 0) rfl, HD.out.cell (j := 1) rfl, HD.out.cell (j := 2) rfl, HD.out.cell (j := 3) rfl⟩ (fun hHeld => ?_)
  clear hK K
  refine norm_ (a' := ?_) ?_ ?_
  rotate_left
  · show Act.put _ (some 33) _ = _
    simp only [Act.put, List.setIfInBounds_toArray, List.set_cons_zero, List.set_cons_succ]
    rfl
  refine one_ (i := 33) (N := some 38) #[true, true, true, true, true, true, true, true, true, true, true, true, true, true, true, true, true, true, true, true, true, true, true, true, true, true, true, true, true, true, true, true, true, true, false, false, false, false, false, false, false, false, false, false, false] rfl rfl (one_of HT_.out (by kernel_rfl)) (by decide) (fun K hK => ?_)
  refine goes_ Try.func36 (by kernel_rfl) rfl #[.slice A5 (lastsOf t).length c5, .slice A1 (lastsOf t).length c1] (by rfl) rfl rfl (by (try simp only [List.map_toArray, List.map_cons, List.map_nil]); first | done | rfl) ?_
  refine (refInts_ HC5.out G1.out (Kd.F_now H3.out) H1.out HL1.out).mono ?_
  rintro e w' ⟨rfl, q, rfl⟩
  refine ⟨_, rfl, ?_⟩
  have hb := drewN_below' w4 q
  replace HTab := Lib.hid (HTab.out.below hb)
  replace HD := Lib.hid (HD.out.below hb)
  replace HBd := Lib.hid (HBd.out.trans (hb.mono HBd.out.size))
  replace H3 := Lib.hid (Kd.F_below H3.out hb)
  replace H4 := Lib.hid (Kd.F_below H4.out hb)
  clear hb HC5 G1
  refine hK.out _ _ ⟨HD.out.cell (j := 0) rfl, HD.out.cell (j := 1) rfl, HD.out.cell (j := 2) rfl, HD.out.cell (j := 3) rfl⟩ (fun hHeld => ?_)
  clear hK K
  refine norm_ (a' := ?_) ?_ ?_
  rotate_left
  · show Act.put _ (some 38) _ = _
    simp only [Act.put, List.setIfInBounds_toArray, List.set_cons_zero, List.set_cons_succ]
    rfl
  refine pure_ (i := 34) (N := some 39) (v := ?_) (a' := ?_) #[true, true, true, true, true, true, true, true, true, true, true, true, true, true, true, true, true, true, true, true, true, true, true, true, true, true, true, true, true, true, true, true, true, true, true, false, false, false, false, false, false, false, false, false, false] rfl rfl (any_of HT_.out (by kernel_rfl)) (fun _ _ _ h => h) (Or.inl ⟨by rfl, ?_⟩) ?_ ?_
  rotate_left
  · intro w'
    go_simp
    with_reducible rfl
  rotate_left
  · simp only [Act.put, List.setIfInBounds_toArray, List.set_cons_zero, List.set_cons_succ]
    rfl
  refine pure_ (i := 35) (N := some 40) (v := ?_) (a' := ?_) #[true, true, true, true, true, true, true, true, true, true, true, true, true, true, true, true, true, true, true, true, true, true, true, true, true, true, true, true, true, true, true, true, true, true, true, true, false, false, false, false, false, false, false, false, false] rfl rfl (any_of HT_.out (by kernel_rfl)) (fun _ _ _ h => h) (Or.inl ⟨by rfl, ?_⟩) ?_ ?_
  rotate_left
  · intro w'
    go_simp
    with_reducible rfl
  rotate_left
  · simp only [Act.put, List.setIfInBounds_toArray, List.set_cons_zero, List.set_cons_succ]
    rfl
  refine pure_ (i := 36) (N := some 41) (v := ?_) (a' := ?_) #[true, true, true, true, true, true, true, true, true, true, true, true, true, true, true, true, true, true, true, true, true, true, true, true, true, true, true, true, true, true, true, true, true, true, true, true, true, false, false, false, false, false, false, false, false] rfl rfl (any_of HT_.out (by kernel_rfl)) (fun _ _ _ h => h) (Or.inl ⟨by rfl, ?_⟩) ?_ ?_
  rotate_left
  · intro w'
    go_simp
    with_reducible rfl
  rotate_left
  · simp only [Act.put, List.setIfInBounds_toArray, List.set_cons_zero, List.set_cons_succ]
    rfl
  refine pure_ (i := 38) (N := some 43) (v := ?_) (a' := ?_) #[true, true, true, true, true, true, true, true, true, true, true, true, true, true, true, true, true, true, true, true, true, true, true, true, true, true, true, true, true, true, true, true, true, true, true, true, true, false, true, false, false, false, false, false, false] rfl rfl (any_of HT_.out (by kernel_rfl)) (fun _ _ _ h => h) (Or.inl ⟨by rfl, ?_⟩) ?_ ?_
  rotate_left
  · intro w'
    go_simp
    with_reducible rfl
  rotate_left
  · simp only [Act.put, List.setIfInBounds_toArray, List.set_cons_zero, List.set_cons_succ]
    rfl
  refine pure_ (i := 39) (N := some 44) (v := ?_) (a' := ?_) #[true, true, true, true, true, true, true, true, true, true, true, true, true, true, true, true, true, true, true, true, true, true, true, true, true, true, true, true, true, true, true, true, true, true, true, true, true, false, true, true, false, false, false, false, false] rfl rfl (any_of HT_.out (by kernel_rfl)) (fun _ _ _ h => h) (Or.inl ⟨by rfl, ?_⟩) ?_ ?_
  rotate_left
  · intro w'
    go_simp
    with_reducible rfl
  rotate_left
  · simp only [Act.put, List.setIfInBounds_toArray, List.set_cons_zero, List.set_cons_succ]
    rfl
  refine pure_ (i := 40) (N := some 45) (v := ?_) (a' := ?_) #[true, true, true, true, true, true, true, true, true, true, true, true, true, true, true, true, true, true, true, true, true, true, true, true, true, true, true, true, true, true, true, true, true, true, true, true, true, false, true, true, true, false, false, false, false] rfl rfl (any_of HT_.out (by kernel_rfl)) (fun _ _ _ h => h) (Or.inl ⟨by rfl, ?_⟩) ?_ ?_
  rotate_left
  · intro w'
    go_simp
    with_reducible rfl
  rotate_left
  · simp only [Act.put, List.setIfInBounds_toArray, List.set_cons_zero, List.set_cons_succ]
    rfl
  refine take_ (i := 41) (N := some 46) (v := ?_) (a' := ?_) #[true, true, true, true, true, true, true, true, true, true, true, true, true, true, true, true, true, true, true, true, true, true, true, true, true, true, true, true, true, true, true, true, true, true, true, true, true, false, true, true, true, true, false, false, false] rfl rfl (take_ofW HT_.out HW_.out (by kernel_rfl)) (fun _ _ _ h => h) (Or.inl ⟨by rfl, ?_⟩) hHeld ?_ ?_
  rotate_left
  · rintro w' ⟨s0, s1, s2, s3⟩
    go_simp
    with_reducible rfl
  rotate_left
  · simp only [Act.put, List.setIfInBounds_toArray, List.set_cons_zero, List.set_cons_succ]
    rfl
  refine one_ (i := 37) (N := some 42) #[true, true, true, true, true, true, true, true, true, true, true, true, true, true, true, true, true, true, true, true, true, true, true, true, true, true, true, true, true, true, true, true, true, true, true, true, true, true, true, true, true, true, false, false, false] rfl rfl (one_of HT_.out (by kernel_rfl)) (by decide) (fun K hK => ?_)
  refine goes_ Try.func20 (by kernel_rfl) rfl #[.pointer (some ⟨B, 0, none⟩)] (by rfl) rfl rfl (by (try simp only [List.map_toArray, List.map_cons, List.map_nil]); first | done | rfl) ?_
  refine (listAt HTab.out).mono ?_
  rintro e w5 ⟨A6, c6, L, rfl, g2, hC, hs6, hm6, hb⟩
  refine ⟨_, rfl, ?_⟩
  replace HTab := Lib.hid (HTab.out.below hb)
  replace HD := Lib.hid (HD.out.below hb)
  replace HBd := Lib.hid (HBd.out.trans (hb.mono HBd.out.size))
  replace H3 := Lib.hid (Kd.F_below H3.out hb)
  replace H4 := Lib.hid (Kd.F_below H4.out hb)
  have e6 : L = l := sorted_eq hs6 HSo.out (fun x => (hm6 x).trans (HM.out x).symm)
  rw [e6] at hC g2 ⊢
  have HC6 := Lib.hid hC
  have G2 := Lib.hid g2
  clear hb hC g2 hs6 hm6 e6 L
  refine hK.out _ _ ⟨HD.out.cell (j := 0) rfl, HD.out.cell (j := 1) rfl, HD.out.cell (j := 2) rfl, HD.out.cell (j := 3) rfl⟩ (fun hHeld => ?_)
  clear hK K
  refine norm_ (a' := ?_) ?_ ?_
  rotate_left
  · show Act.put _ (some 42) _ = _
    simp only [Act.put, List.setIfInBounds_toArray, List.set_cons_zero, List.set_cons_succ]
    rfl
  refine one_ (i := 42) (N := some 47) #[true, true, true, true, true, true, true, true, true, true, true, true, true, true, true, true, true, true, true, true, true, true, true, true, true, true, true, true, true, true, true, true, true, true, true, true, true, true, true, true, true, true, true, false, false] rfl rfl (one_of HT_.out (by kernel_rfl)) (by decide) (fun K hK => ?_)
  refine goes_ Try.func37 (by kernel_rfl) rfl #[.slice A6 l.length c6, .slice A2 l.length c2] (by rfl) rfl rfl (by (try simp only [List.map_toArray, List.map_cons, List.map_nil]); first | done | rfl) ?_
  refine (refSame_ HC6.out G2.out (Kd.F_now H4.out) H2.out HL2.out).mono ?_
  rintro e w' ⟨rfl, q2, rfl⟩
  refine ⟨_, rfl, ?_⟩
  have hb := drewN_below' w5 q2
  replace HTab := Lib.hid (HTab.out.below hb)
  replace HD := Lib.hid (HD.out.below hb)
  replace HBd := Lib.hid (HBd.out.trans (hb.mono HBd.out.size))
  replace H3 := Lib.hid (Kd.F_below H3.out hb)
  replace H4 := Lib.hid (Kd.F_below H4.out hb)
  clear hb HC6 G2
  refine hK.out _ _ ⟨HD.out.cell (j := 0) rfl, HD.out.cell (j := 1) rfl, HD.out.cell (j := 2) rfl, HD.out.cell (j := 3) rfl⟩ (fun hHeld => ?_)
  clear hK K
  refine norm_ (a' := ?_) ?_ ?_
  rotate_left
  · show Act.put _ (some 47) _ = _
    simp only [Act.put, List.setIfInBounds_toArray, List.set_cons_zero, List.set_cons_succ]
    rfl
  refine pure_ (i := 43) (N := some 48) (v := ?_) (a' := ?_) #[true, true, true, true, true, true, true, true, true, true, true, true, true, true, true, true, true, true, true, true, true, true, true, true, true, true, true, true, true, true, true, true, true, true, true, true, true, true, true, true, true, true, true, true, false] rfl rfl (any_of HT_.out (by kernel_rfl)) (fun _ _ _ h => h) (Or.inl ⟨by rfl, ?_⟩) ?_ ?_
  rotate_left
  · intro w'
    go_simp
    with_reducible rfl
  rotate_left
  · simp only [Act.put, List.setIfInBounds_toArray, List.set_cons_zero, List.set_cons_succ]
    rfl
  refine pure_ (i := 44) (N := some 4) (v := ?_) (a' := ?_) #[true, true, true, true, true, true, true, true, true, true, true, true, true, true, true, true, true, true, true, true, true, true, true, true, true, true, true, true, true, true, true, true, true, true, true, true, true, true, true, true, true, true, true, true, true] rfl rfl (any_of HT_.out (by kernel_rfl)) (fun _ _ _ h => h) (Or.inl ⟨by rfl, ?_⟩) ?_ ?_
  rotate_left
  · intro w'
    go_simp
    with_reducible rfl
  rotate_left
  · simp only [Act.put, List.setIfInBounds_toArray, List.set_cons_zero, List.set_cons_succ]
    rfl
  refine done_ (done_of HT_.out (by kernel_rfl)) ?_
  clear hHeld HT_ HW_
  go_wp2_with fail
  go_ret
  exact ⟨rfl, HBd.out⟩
end Go.Proofs.Ytccfjjaljckinaa.Tag
