/- A table that is made: what it tells. Plain facts. No conditions. -/
import Derived.Test.YtccfjjaljckinaaRMakeAM
import Derived.Test.YtccfjjaljckinaaRTagInvM
namespace Go.Proofs.Ytccfjjaljckinaa.Tag
open Go.RowKit Go.Lib Go.Proofs.Ytccfjjaljckinaa.Mem Go.Proofs.Ytccfjjaljckinaa.IMap Go.Proofs.YtccfjjaljckinaaW.PrintWords Go.Proofs.Ytccfjjaljckinaa.PTagActs
set_option linter.unusedVariables false

theorem makeAt {w : World} {cap serial : Int} {A1 A2 : Option Addr} {c1 c2 : Nat} {lasts : List Int} {l : List Listed} (h1 : Kd.C (Kd.int .i64) w A1 lasts.length lasts) (g1 : lasts.length ≤ c1) (h2 : Kd.C k34 w A2 l.length (sL l)) (g2 : l.length ≤ c2) (hn1 : lasts.length ≤ 1000) (hn2 : l.length ≤ 1000)
    (hs : In64 serial) (hfl : ∀ x ∈ l, In64O x.o) : Calls Try.prog 16 #[.int .i64 cap, .int .i64 serial, .slice A1 lasts.length c1, .slice A2 l.length c2] w (MakePost cap serial lasts l w) := by
  by_cases b1 : cap < 0
  · exact make_a h1 g1 h2 g2 hn1 hn2 b1
  by_cases b2 : 65536 < cap
  · exact make_b h1 g1 h2 g2 hn1 hn2 b1 b2
  by_cases b3 : serial < 0
  · exact make_c h1 g1 h2 g2 hn1 hn2 b1 b2 b3
  cases b4 : lasts.getLast? with
  | none =>
    have hz : lasts = [] := List.getLast?_eq_none_iff.1 b4
    by_cases b5 : cap < l.length
    · exact make_e0 h1 g1 h2 g2 hn1 hn2 b1 b2 b3 (by rw [hz]; rfl) b5
    · exact make_in_n h1 g1 h2 g2 hn1 hn2 b1 b2 b3 b5 hs hfl hz (by rintro (h | h | h | h | h); exact b1 h; exact b2 h; exact b3 h; rw [b4] at h; cases h; exact b5 h)
  | some v =>
    by_cases b6 : v = 0
    · subst b6; exact make_d h1 g1 h2 g2 hn1 hn2 b1 b2 b3 b4
    · by_cases b5 : cap < l.length
      · exact make_e1 h1 g1 h2 g2 hn1 hn2 b1 b2 b3 b4 b6 b5
      · exact make_in_p h1 g1 h2 g2 hn1 hn2 b1 b2 b3 b5 hs hfl b4 b6 (by rintro (h | h | h | h | h); exact b1 h; exact b2 h; exact b3 h; rw [b4] at h; injection h with h; exact b6 h; exact b5 h)

theorem good_revive {t : Tab} (g : Good t) {x : Listed} (he : reviveE t x = 0) (hx : In64O x.o) : Good (reviveT t x) := by
  unfold reviveT
  rw [if_pos he]
  unfold reviveE at he
  split at he
  · rename_i hm
    split at he
    · cases he
    · cases hs : t.slots[x.r.i.toNat]? with
      | none => rw [hs] at he; cases he
      | some s =>
        rw [hs] at he
        simp only at he
        split at he
        · cases he
        · rename_i hc
          have gs := g.slots s (List.mem_of_getElem? hs)
          refine g.set (s' := ⟨s.last, x.r.g, x.o⟩) ⟨gs.last0, gs.last1, by simp only; omega, by simp only; omega, hx.1, hx.2.1, hx.2.2⟩ (fun _ j b hj hb hbg e => ?_)
          have ht : timesOf t.slots x.o.time = none := by
            unfold mayE at hm
            split at hm
            · cases hm
            · split at hm
              · cases hm
              · rename_i h2; cases hh : timesOf t.slots x.o.time with
                | none => rfl
                | some y => rw [hh] at h2; exact absurd rfl h2
          exact timesOf_none ht b (List.mem_of_getElem? hb) hbg e
  · rename_i hm; exact absurd he hm

def okAt (cap serial : Int) (lasts : List Int) (l : List Listed) (k : Nat) : Prop := ∀ x, l[k]? = some x → ¬ ((prevT l k).any (fun y => decide (x.o.time ≤ y))) = true ∧ rreviveE ⟨cap, serial, lasts, l.take k⟩ x = 0
theorem takeWhile_all {α : Type} (p : α → Bool) : ∀ (l : List α), (∀ y ∈ l, p y = true) → l.takeWhile p = l ∧ l.dropWhile p = []
  | [], _ => ⟨rfl, rfl⟩
  | a :: l, h => by
    have h1 := h a List.mem_cons_self
    obtain ⟨h2, h3⟩ := takeWhile_all p l (fun y hy => h y (List.mem_cons_of_mem _ hy))
    rw [List.takeWhile_cons, List.dropWhile_cons, if_pos h1, if_pos h1, h2, h3]
    exact ⟨rfl, rfl⟩
theorem addL_end {l : List Listed} {x : Listed} (h : ∀ y ∈ l, y.o.time < x.o.time) : addL l x = l ++ [x] := by
  unfold addL
  have e1 : l.takeWhile (earlier x) = l := (takeWhile_all _ l (fun y hy => decide_eq_true (h y hy))).1
  have e2 : l.dropWhile (earlier x) = [] := (takeWhile_all _ l (fun y hy => decide_eq_true (h y hy))).2
  rw [e1, e2]
theorem before_all {l : List Listed} {k : Nat} {x : Listed} (hso : Sorted (l.take k)) (hk : k ≤ l.length) (hp : ¬ ((prevT l k).any (fun y => decide (x.o.time ≤ y))) = true) : ∀ y ∈ l.take k, y.o.time < x.o.time := by
  intro y hy
  by_cases h0 : k = 0
  · subst h0; simp at hy
  · have hl : k - 1 < l.length := by omega
    have hp' : l[k - 1].o.time < x.o.time := by
      unfold prevT at hp
      rw [if_neg h0, List.getElem?_eq_getElem hl] at hp
      simp at hp; exact hp
    obtain ⟨j, hj⟩ := List.getElem?_of_mem hy
    obtain ⟨hjl, hje⟩ := List.getElem?_eq_some_iff.1 hj
    rw [List.length_take] at hjl
    have hlast : (l.take k)[k - 1]? = some l[k - 1] := by rw [List.getElem?_take, if_pos (by omega), List.getElem?_eq_getElem hl]
    by_cases hjk : j = k - 1
    · subst hjk; rw [hlast] at hj; injection hj with hj; subst hj; exact hp'
    · have := List.pairwise_iff_getElem.1 hso j (k - 1) (by rw [List.length_take]; omega) (by rw [List.length_take]; omega) (by omega)
      have e2 := (List.getElem?_eq_some_iff.1 hlast).2
      rw [hje, e2] at this
      omega
theorem revs_good (cap serial : Int) (lasts : List Int) (l : List Listed) (hfl : ∀ x ∈ l, In64O x.o) : ∀ (d k : Nat) (t : Tab), k + d = l.length → Rel t ⟨cap, serial, lasts, l.take k⟩ → Good t → (∀ i, k ≤ i → okAt cap serial lasts l i) →
    ∃ u, revs t (prevT l k) (l.drop k) = some u ∧ Rel u ⟨cap, serial, lasts, l⟩
  | 0, k, t, hk, hr, g, _ => by
    rw [List.drop_of_length_le (by omega)]
    rw [List.take_of_length_le (by omega)] at hr
    exact ⟨t, by rw [revs], hr⟩
  | d + 1, k, t, hk, hr, g, hok => by
    obtain ⟨x, hx⟩ : ∃ x, l[k]? = some x := ⟨_, List.getElem?_eq_getElem (by omega)⟩
    obtain ⟨o1, o2⟩ := hok k (Nat.le_refl _) x hx
    have he : reviveE t x = 0 := by rw [← hr.reviveE g x]; exact o2
    have hxf := hfl x (List.mem_of_getElem? hx)
    have hr2 := hr.revive g x
    unfold rreviveT at hr2
    rw [if_pos o2] at hr2
    simp only at hr2
    rw [addL_end (before_all hr.sorted (by omega) o1)] at hr2
    have et : l.take k ++ [x] = l.take (k + 1) := by rw [List.take_add_one, hx]; rfl
    rw [et] at hr2
    obtain ⟨u, h1, h2⟩ := revs_good cap serial lasts l hfl d (k + 1) (reviveT t x) (by omega) hr2 (good_revive g he hxf) (fun i hi => hok i (by omega))
    refine ⟨u, ?_, h2⟩
    rw [drop_at hx, revs_ok o1 he, ← prevT_succ hx]
    exact h1
theorem revs_none (cap serial : Int) (lasts : List Int) (l : List Listed) (hfl : ∀ x ∈ l, In64O x.o) : ∀ (d k : Nat) (t : Tab), k + d = l.length → Rel t ⟨cap, serial, lasts, l.take k⟩ → Good t → (∃ i, k ≤ i ∧ ¬ okAt cap serial lasts l i) →
    revs t (prevT l k) (l.drop k) = none
  | 0, k, t, hk, hr, g, ⟨i, hi, hn⟩ => by
    exfalso
    exact hn (fun x hx => by have := (List.getElem?_eq_some_iff.1 hx).1; omega)
  | d + 1, k, t, hk, hr, g, ⟨i, hi, hn⟩ => by
    obtain ⟨x, hx⟩ : ∃ x, l[k]? = some x := ⟨_, List.getElem?_eq_getElem (by omega)⟩
    have hxf := hfl x (List.mem_of_getElem? hx)
    rw [drop_at hx]
    by_cases o1 : ((prevT l k).any (fun y => decide (x.o.time ≤ y))) = true
    · exact revs_bad (Or.inl o1)
    · by_cases he : reviveE t x = 0
      · have o2 : rreviveE ⟨cap, serial, lasts, l.take k⟩ x = 0 := by rw [hr.reviveE g x]; exact he
        have hr2 := hr.revive g x
        unfold rreviveT at hr2
        rw [if_pos o2] at hr2
        simp only at hr2
        rw [addL_end (before_all hr.sorted (by omega) o1)] at hr2
        have et : l.take k ++ [x] = l.take (k + 1) := by rw [List.take_add_one, hx]; rfl
        rw [et] at hr2
        rw [revs_ok o1 he, ← prevT_succ hx]
        refine revs_none cap serial lasts l hfl d (k + 1) (reviveT t x) (by omega) hr2 (good_revive g he hxf) ⟨i, ?_, hn⟩
        by_cases hik : i = k
        · subst hik
          exact absurd (fun y hy => by rw [hx] at hy; injection hy with hy; subst hy; exact ⟨o1, o2⟩) hn
        · omega
      · exact revs_bad (Or.inr he)
theorem start_rel (cap serial : Int) (lasts : List Int) : Rel ⟨cap, serial, slotsOf lasts⟩ ⟨cap, serial, lasts, []⟩ := by
  refine ⟨rfl, rfl, ?_, List.Pairwise.nil, fun x => ?_⟩
  · unfold lastsOf slotsOf; simp [Function.comp_def]
  · constructor
    · intro h; cases h
    · intro h
      obtain ⟨i, s, hs, hg, _⟩ := mem_liveL.1 h
      simp only [slotsOf, List.getElem?_map] at hs
      cases hl : lasts[i]? with
      | none => rw [hl] at hs; cases hs
      | some v => rw [hl] at hs; injection hs with hs; subst hs; exact absurd hg (by simp)
theorem start_good {cap serial : Int} {lasts : List Int} (h0 : 0 ≤ cap) (h1 : cap ≤ 65536) (hs : In64 serial) (hv : ∀ v ∈ lasts, 0 ≤ v ∧ v ≤ 4294967295) (hn : lasts.length ≤ 1000) : Good ⟨cap, serial, slotsOf lasts⟩ := by
  refine ⟨h0, h1, hs, fun s hs' => ?_, fun i j a b ha hb hga hgb e => ?_, by show (slotsOf lasts).length ≤ 1000000; unfold slotsOf; rw [List.length_map]; omega⟩
  · obtain ⟨v, hm, rfl⟩ := List.mem_map.1 hs'
    exact slot_good (hv v hm).1 (hv v hm).2
  · obtain ⟨v, hm, rfl⟩ := List.mem_map.1 (List.mem_of_getElem? ha)
    exact absurd hga (by simp)
end Go.Proofs.Ytccfjjaljckinaa.Tag
