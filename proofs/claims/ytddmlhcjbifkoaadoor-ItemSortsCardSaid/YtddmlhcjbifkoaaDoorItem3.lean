/- The program's Text, Read, Compare of items. No conditions. -/
import Derived.Test.YtddmlhcjbifkoaaDoorItem2
import Derived.Test.YtddmlhcjbifkoaaDoorShelfI
import Derived.Test.YtddmlhcjbifkoaaDoorItemCmp
import Derived.Test.YtddmlhcjbifkoaaDoorMem
import Derived.Lib.AppendIntMem
import Derived.Lib.Hide
import Derived.KernelRfl
namespace Go.Proofs.YtddmlhcjbifkoaaDoor.Item
open Go.Lib Go.RowKit Go.Proofs.YtddmlhcjbifkoaaDoor.Mem Go.Proofs.YtddmlhcjbifkoaaDoorW.PrintWords Go.Proofs.YtddmlhcjbifkoaaDoor.PItemReads Go.Proofs.YtddmlhcjbifkoaaDoor.ItemCmp

theorem var_step {w w' : World} {n : String} {cs : Array Value} (h : w.var? Tryd.prog n = some cs) (hb : Below w.heap.size w w') : w'.var? Tryd.prog n = some cs := by
  unfold World.var? at h ⊢
  cases hg : Tryd.prog.globalNamed n with
  | none => simp [hg] at h
  | some g =>
    simp only [hg, Option.bind_some] at h ⊢
    have hlt : g < w.heap.size := by
      rcases Nat.lt_or_ge g w.heap.size with h' | h'
      · exact h'
      · simp [Array.getElem?_eq_none h'] at h
    rw [hb.block g hlt]
    exact h

/-- What the library's variables hold. -/
structure Env (w : World) : Prop where
  tab : Lib.TabIs Tryd.prog w "internal/strconv.uint64pow10" .u64 Lib.pow10Tab
  max : ∃ m : Int, w.cell? ⟨3, 0, none⟩ = some (.int .i64 m)
  syn : ∃ tp p, w.var? Tryd.prog "strconv.ErrSyntax" = some #[.iface tp p]
  rng : ∃ tp p, w.var? Tryd.prog "strconv.ErrRange" = some #[.iface tp p]
theorem Env.step {w w' : World} (h : Env w) (hb : Below w.heap.size w w') : Env w' := by
  obtain ⟨h1, ⟨m, h2⟩, ⟨t3, p3, h3⟩, ⟨t4, p4, h4⟩⟩ := h
  refine ⟨?_, ⟨m, (hb.cell (p := ⟨3, 0, none⟩) (World.block_lt_of_cell? w _ h2)).trans h2⟩, ⟨t3, p3, var_step h3 hb⟩, ⟨t4, p4, var_step h4 hb⟩⟩
  unfold Lib.TabIs at h1 ⊢
  exact var_step h1 hb

theorem itoa_calls (n : Int) (w : World) (hn : In64 n) (he : Env w) : Calls Tryd.prog 53 #[.int .i64 n] w fun e w' => e = .returned (.string (mk (itoa n))) ∧ Below w.heap.size w w' := by
  refine (Tryd.strconv_Itoa n hn.1 hn.2 w he.tab).mono ?_
  rintro e w' ⟨rfl, k, os, rfl⟩
  exact ⟨rfl, Lib.below_grow _ _ (Nat.le_refl _) _ _⟩

set_option maxRecDepth 100000 in
set_option maxHeartbeats 1000000 in
theorem text (k i : Int) (w : World) (hk : In64 k) (hi : In64 i) (he : Env w) :
    Calls Tryd.prog 27 #[.agg #[.int .i64 k, .int .i64 i]] w fun e w' => e = .returned (.string (mk (textOf k i))) ∧ Below w.heap.size w w' := by
  have hu41 := Tryd.underlying41
  obtain ⟨f, hf⟩ : ∃ f : Int → ByteArray, ∀ n, f n = mk (itoa n) := ⟨fun n => mk (itoa n), fun _ => rfl⟩
  have CA : Hid (∀ n w1, In64 n → Below w.heap.size w w1 → Calls Tryd.prog 53 #[.int .i64 n] w1 fun e w' => e = .returned (.string (f n)) ∧ Below w1.heap.size w1 w') := Lib.hid (fun n w1 hn hb => by rw [hf n]; exact itoa_calls n w1 hn (he.step hb))
  have E : Hid ((f k ++ (⟨#[35]⟩ : ByteArray)) ++ f i = mk (textOf k i)) := Lib.hid (by
    rw [hf, hf, show (⟨#[35]⟩ : ByteArray) = mk [35] from rfl, mk_append, mk_append]; unfold textOf; simp)
  have l1 : (f k).size ≤ 20 := by rw [hf, mk_size]; exact itoa_len hk
  have l2 : (f i).size ≤ 20 := by rw [hf, mk_size]; exact itoa_len hi
  have l3 : (f k ++ (⟨#[35]⟩ : ByteArray)).size ≤ 21 := by
    rw [hf, show (⟨#[35]⟩ : ByteArray) = mk [35] from rfl, mk_append, mk_size, List.length_append]
    have := itoa_len hk
    simp; omega
  clear hf he
  obtain ⟨wa, hwa⟩ : ∃ wa, wa = w.alloc (Obj.cells #[Value.int .i64 k, .int .i64 i] 41) := ⟨_, rfl⟩
  have HA : Hid (Below w.heap.size w wa) := by subst hwa; exact (Below.refl _ _).alloc (Nat.le_refl _) _
  have HBa : Hid (Blk wa w.heap.size #[.int .i64 k, .int .i64 i] 41) := by subst hwa; exact Blk.new _ _ _
  have HE := Lib.hid hwa
  clear hwa
  go_enter Tryd.func27, Tryd.ntmps27
  go_wp2_with fail
  rw [← HE.out]
  have hc0 := HBa.out.cell (j := 0) rfl
  have hc1 := HBa.out.cell (j := 1) rfl
  have HBd : Hid (Blk wa.drew w.heap.size #[.int .i64 k, .int .i64 i] 41) := HBa.out.drew
  have HD : Hid (Below w.heap.size w wa.drew) := HA.out.drew
  clear HE HBa HA
  go_region_with (first
    | (go_at_call 53; refine (CA.out _ _ (by assumption) HD.out).mono ?_; rintro e w3 ⟨rfl, hb⟩; have hB3 := HBd.out.below hb; have hk0 := hB3.cell (j := 0) rfl; have hk1 := hB3.cell (j := 1) rfl; replace HD := Lib.hid (HD.out.trans (hb.mono HD.out.size)); replace HBd := Lib.hid hB3; clear hb hB3))
  all_goals (go_wp2; go_ret; exact ⟨by rw [← E.out]; rfl, HD.out⟩)

set_option maxRecDepth 100000 in
set_option maxHeartbeats 1000000 in
theorem refText (k i : Int) (w : World) (hk : In64 k) (hi : In64 i) :
    Calls Tryd.prog 29 #[.agg #[.int .i64 k, .int .i64 i]] w fun e w' => e = .returned (.string (mk (textOf k i))) ∧ Below w.heap.size w w' := by
  have hu41 := Tryd.underlying41
  obtain ⟨f, hf⟩ : ∃ f : Int → ByteArray, ∀ n, f n = mk (itoa n) := ⟨fun n => mk (itoa n), fun _ => rfl⟩
  have CA : Hid (∀ n w1, In64 n → Below w.heap.size w w1 → Calls Tryd.prog 35 #[.int .i64 n] w1 fun e w' => e = .returned (.string (f n)) ∧ Below w1.heap.size w1 w') := Lib.hid (fun n w1 hn hb => by rw [hf n]; exact whilomref02_Number.calls 30 n (mk (itoa n)) w1 (number_ev hn (Nat.le_refl _)))
  have E : Hid ((f k ++ (⟨#[35]⟩ : ByteArray)) ++ f i = mk (textOf k i)) := Lib.hid (by
    rw [hf, hf, show (⟨#[35]⟩ : ByteArray) = mk [35] from rfl, mk_append, mk_append]; unfold textOf; simp)
  have l1 : (f k).size ≤ 20 := by rw [hf, mk_size]; exact itoa_len hk
  have l2 : (f i).size ≤ 20 := by rw [hf, mk_size]; exact itoa_len hi
  have l3 : (f k ++ (⟨#[35]⟩ : ByteArray)).size ≤ 21 := by
    rw [hf, show (⟨#[35]⟩ : ByteArray) = mk [35] from rfl, mk_append, mk_size, List.length_append]
    have := itoa_len hk
    simp; omega
  clear hf
  obtain ⟨wa, hwa⟩ : ∃ wa, wa = w.alloc (Obj.cells #[Value.int .i64 k, .int .i64 i] 41) := ⟨_, rfl⟩
  have HA : Hid (Below w.heap.size w wa) := by subst hwa; exact (Below.refl _ _).alloc (Nat.le_refl _) _
  have HBa : Hid (Blk wa w.heap.size #[.int .i64 k, .int .i64 i] 41) := by subst hwa; exact Blk.new _ _ _
  have HE := Lib.hid hwa
  clear hwa
  go_enter Tryd.func29, Tryd.ntmps29
  go_wp2_with fail
  rw [← HE.out]
  have hc0 := HBa.out.cell (j := 0) rfl
  have hc1 := HBa.out.cell (j := 1) rfl
  have HBd : Hid (Blk wa.drew w.heap.size #[.int .i64 k, .int .i64 i] 41) := HBa.out.drew
  have HD : Hid (Below w.heap.size w wa.drew) := HA.out.drew
  clear HE HBa HA
  go_region_with (first
    | (go_at_call 35; refine (CA.out _ _ (by assumption) HD.out).mono ?_; rintro e w3 ⟨rfl, hb⟩; have hB3 := HBd.out.below hb; have hk0 := hB3.cell (j := 0) rfl; have hk1 := hB3.cell (j := 1) rfl; replace HD := Lib.hid (HD.out.trans (hb.mono HD.out.size)); replace HBd := Lib.hid hB3; clear hb hB3))
  all_goals (go_wp2; go_ret; exact ⟨by rw [← E.out]; rfl, HD.out⟩)

/-- Atoi, at every text. -/
theorem atoi (s : ByteArray) (w : World) (hs : s.size ≤ 1000000) (he : Env w) : Calls Tryd.prog 55 #[.string s] w fun e w' =>
    (∃ v ev, e = .returned (.tuple #[.int .i64 v, ev]) ∧ In64 v ∧ ((ev = .nilIface ∧ Lib.atoiAll s.data.toList = .ok v) ∨ (∃ a, ev = .iface 128 (.pointer (some a))) ∧ ∀ v, Lib.atoiAll s.data.toList ≠ .ok v)) ∧ Below w.heap.size w w' := by
  cases h : Lib.atoiAll s.data.toList with
  | ok v =>
    refine (Tryd.strconv_Atoi_ok s (by omega) v h w).mono ?_
    rintro e w' ⟨rfl, hw⟩
    refine ⟨⟨v, _, rfl, atoiAll_bounds h, Or.inl ⟨rfl, rfl⟩⟩, ?_⟩
    rcases hw with rfl | ⟨t, rfl⟩
    · exact Below.refl _ _
    · exact ⟨rfl, rfl, rfl, by rw [Lib.bytesWorld_size]; omega, fun k hk => Lib.bytesWorld_at_old w 5 t k hk⟩
  | range =>
    obtain ⟨tp, p, hv⟩ := he.rng
    refine (Tryd.strconv_Atoi_range_var s (by omega) h tp p w hv).mono ?_
    rintro e w' ⟨N, rfl, _, _, hb⟩
    exact ⟨⟨_, _, rfl, atoiSat_bounds _, Or.inr ⟨⟨_, rfl⟩, fun v hv => by cases hv⟩⟩, hb⟩
  | _ =>
    obtain ⟨tp, p, hv⟩ := he.syn
    refine (Tryd.strconv_Atoi_syntax_var s (by omega) h tp p w hv).mono ?_
    rintro e w' ⟨N, rfl, _, _, hb⟩
    exact ⟨⟨0, _, rfl, by unfold In64; omega, Or.inr ⟨⟨_, rfl⟩, fun v hv => by cases hv⟩⟩, hb⟩

/-- The order. -/
def cmpR (a b c d : Int) : Int := if a < c then -1 else if c < a then 1 else if b < d then -1 else if d < b then 1 else 0
theorem compare_ev (a b c d : Int) : item_Compare.f 9 a b c d = some (cmpR a b c d) := by
  have hc : ∀ x y : Int, cmp_Compare_int.f x y = some (if x < y then -1 else if y < x then 1 else 0) := by
    intro x y
    unfold cmp_Compare_int.f cmp_isNaN_int.f
    simp
    split
    · rfl
    · split <;> rfl
  unfold item_Compare.f
  rw [hc, hc]
  simp only [Option.bind_some]
  unfold cmpR
  split
  · (first | rfl | (split <;> decide +kernel) | decide +kernel | (simp only [Option.bind_some]; split <;> (first | rfl | (split <;> decide +kernel))))
  · split
    · (first | rfl | (split <;> decide +kernel) | decide +kernel | (simp only [Option.bind_some]; split <;> (first | rfl | (split <;> decide +kernel))))
    · split
      · (first | rfl | (split <;> decide +kernel) | decide +kernel | (simp only [Option.bind_some]; split <;> (first | rfl | (split <;> decide +kernel))))
      · split <;> (first | rfl | (split <;> decide +kernel) | decide +kernel | (simp only [Option.bind_some]; split <;> (first | rfl | (split <;> decide +kernel))))
theorem compare (a b c d : Int) (w : World) : Calls Tryd.prog 25 #[.agg #[.int .i64 a, .int .i64 b], .agg #[.int .i64 c, .int .i64 d]] w fun e w' => e = .returned (.int .i64 (cmpR a b c d)) ∧ Below w.heap.size w w' :=
  item_Compare.calls 9 a b c d _ w (compare_ev a b c d)
end Go.Proofs.YtddmlhcjbifkoaaDoor.Item
