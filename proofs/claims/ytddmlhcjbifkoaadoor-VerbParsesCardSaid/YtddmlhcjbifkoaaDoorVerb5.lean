/- The program's reading of handles, of fields, of words' heads. No conditions. -/
import Derived.Test.YtddmlhcjbifkoaaDoorVerb3
import Derived.Test.YtddmlhcjbifkoaaDoorVerb4
namespace Go.Proofs.YtddmlhcjbifkoaaDoor.Verb
open Go.Lib Go.RowKit Go.Proofs.YtddmlhcjbifkoaaDoor.Mem Go.Proofs.YtddmlhcjbifkoaaDoorW.PrintWords Go.Proofs.YtddmlhcjbifkoaaDoor.Item

set_option maxRecDepth 100000 in
set_option maxHeartbeats 1000000 in
theorem handleRead (s : ByteArray) (w : World) (hs : s.size ≤ 1000000) (he : Env w) : Calls Tryd.prog 80 #[.string s] w fun e w' =>
    e = .returned (.tuple #[.agg #[.int .i64 (handR (handleOf s.data.toList)).1, .int .i64 (handR (handleOf s.data.toList)).2.1], .bool (handR (handleOf s.data.toList)).2.2]) ∧ Below w.heap.size w w' := by
  have hu50 := Tryd.underlying50
  have HENV := Lib.hid he
  obtain ⟨wa, hwa⟩ : ∃ wa, wa = w.alloc (Obj.cells #[Value.int .i64 0, .int .i64 0] 50) := ⟨_, rfl⟩
  have HA : Hid (Below w.heap.size w wa) := by subst hwa; exact Lib.hid ((Below.refl _ _).alloc (Nat.le_refl _) _)
  have HBa : Hid (Blk wa w.heap.size #[.int .i64 0, .int .i64 0] 50) := by subst hwa; exact Lib.hid (Blk.new _ _ _)
  have HE := Lib.hid hwa
  clear hwa
  obtain ⟨m, hm⟩ := (he.step HA.out).max
  have hcut := Tryd.strings_Cut s ⟨#[46]⟩ m wa (by omega) hm
  obtain ⟨a, b, x, hc⟩ : ∃ a b x, Lib.cut s.data.toList [46] = (a, b, x) := ⟨_, _, _, rfl⟩
  have e0 : (⟨#[46]⟩ : ByteArray).data.toList = [46] := rfl
  rw [e0, hc] at hcut
  have HC : Hid (Calls Tryd.prog 54 #[.string s, .string ⟨#[46]⟩] wa fun e w' => e = .returned (.tuple #[.string (mk a), .string (mk b), .bool x]) ∧ ∃ n, w' = wa.drewN n) := Lib.hid hcut
  have lens : a.length ≤ s.size ∧ b.length ≤ s.size := by
    have hz := sz s
    unfold Lib.cut at hc
    split at hc <;> simp only [Prod.mk.injEq] at hc
    · rw [← hc.1, ← hc.2.1, List.length_take, List.length_drop]; omega
    · rw [← hc.1, ← hc.2.1]; simp
  have CA : Hid (∀ w1, Below w.heap.size w w1 → Calls Tryd.prog 79 #[.string (mk a)] w1 fun e w' => e = .returned (.tuple #[.int .i64 (numR (num a)).1, .bool (numR (num a)).2]) ∧ Below w1.heap.size w1 w') := Lib.hid (fun w1 hb => by
    have := numberOf (mk a) w1 (by rw [mk_size]; omega) (he.step hb)
    rw [mk_toList] at this; exact this)
  have CB : Hid (∀ w1, Below w.heap.size w w1 → Calls Tryd.prog 79 #[.string (mk b)] w1 fun e w' => e = .returned (.tuple #[.int .i64 (numR (num b)).1, .bool (numR (num b)).2]) ∧ Below w1.heap.size w1 w') := Lib.hid (fun w1 hb => by
    have := numberOf (mk b) w1 (by rw [mk_size]; omega) (he.step hb)
    rw [mk_toList] at this; exact this)
  have HIs := Lib.hid (handle_is hc)
  have CT : Hid (∀ i g w1, In64 i → In64 g → Below w.heap.size w w1 → Calls Tryd.prog 36 #[.agg #[.int .i64 i, .int .i64 g]] w1 fun e w' => e = .returned (.string (mk (handleTxt i g))) ∧ Below w1.heap.size w1 w') := Lib.hid (fun i g w1 hi hg hb => handle_ i g w1 hi hg (he.step hb))
  have HS : Hid (∀ l : List UInt8, mk l = s ↔ l = s.data.toList) := Lib.hid (fun l => ⟨fun h => by rw [← h, mk_toList], fun h => by rw [h, Item.mk_data]⟩)
  have NA : Hid (∀ v, num a = some v → In64 v) := Lib.hid (fun v hv => (num_some hv).2.1)
  have NB : Hid (∀ v, num b = some v → In64 v) := Lib.hid (fun v hv => (num_some hv).2.1)
  clear hcut hc lens hm hs he e0
  generalize mk a = ta at *
  generalize mk b = tb at *
  generalize handleOf s.data.toList = R at *
  obtain ⟨sl, hsl⟩ : ∃ l, l = s.data.toList := ⟨_, rfl⟩
  rw [← hsl] at HIs HS
  clear hsl
  go_enter Tryd.func80, Tryd.ntmps80
  go_wp2_with fail
  rw [← HE.out]
  refine (HC.out).mono ?_
  rintro e w1 ⟨rfl, n, hw1⟩
  have hb0 : Below wa.heap.size wa w1 := by subst hw1; exact pw_below_drewN (Below.refl _ _) _
  have HB1 : Hid (Below w.heap.size w w1) := Lib.hid (HA.out.trans (hb0.mono HA.out.size))
  have HK1 : Hid (Blk w1 w.heap.size #[.int .i64 0, .int .i64 0] 50) := Lib.hid (HBa.out.below hb0)
  clear hw1 HC hb0 HE HA HBa
  go_wp2_with fail
  refine (CA.out w1 HB1.out).mono ?_
  rintro e w2 ⟨rfl, hb⟩
  have HB2 : Hid (Below w.heap.size w w2) := Lib.hid (HB1.out.trans (hb.mono HB1.out.size))
  have HK2 := Lib.hid (HK1.out.below hb)
  clear hb HB1 HK1
  go_wp2_with fail
  refine (CB.out w2 HB2.out).mono ?_
  rintro e w3 ⟨rfl, hb⟩
  have HB3 : Hid (Below w.heap.size w w3) := Lib.hid (HB2.out.trans (hb.mono HB2.out.size))
  have HK3 := Lib.hid (HK2.out.below hb)
  clear hb HB2 HK2 CA CB
  cases hna : num a with
  | none =>
    have HR : Hid (R = none) := Lib.hid (by rw [HIs.out, hna])
    generalize numR (num b) = q at *
    clear HIs CT HS NA NB
    simp only [numR]
    have hka := HK3.out.alloc (Obj.cells #[Value.int .i64 0, Value.int .i64 q.1] 50)
    have y0 : (w3.alloc (Obj.cells #[Value.int .i64 0, Value.int .i64 q.1] 50)).cell? ⟨w.heap.size, 0, none⟩ = some (.int .i64 0) := hka.cell (j := 0) rfl
    have y1 : (w3.alloc (Obj.cells #[Value.int .i64 0, Value.int .i64 q.1] 50)).cell? ⟨w.heap.size, 1, none⟩ = some (.int .i64 0) := hka.cell (j := 1) rfl
    have f0 := hka.free 0
    have f1 := hka.free 1
    have HRB := Lib.hid hka
    have HB4 : Hid (Below w.heap.size w (w3.alloc (Obj.cells #[Value.int .i64 0, Value.int .i64 q.1] 50))) := Lib.hid (HB3.out.alloc (HB3.out.size) _)
    clear hka HB3 HK3
    go_wp2
    refine bodyPost_ret (results_ct rfl _ _ w.heap.size 50 #[.int .i64 0, .int .i64 0] (0, 0) _ rfl (((HRB.out).set 0 (.int .i64 0)).set 1 (.int .i64 0)) Tryd.underlying50 rfl (by kernel_rfl)) rfl ?_
    exact ⟨by rw [HR.out]; rfl, ((HB4.out).setCell (Nat.le_refl _) _).setCell (Nat.le_refl _) _⟩
  | some i =>
    have hi := NA.out i hna
    cases hnb : num b with
    | none =>
      have HR : Hid (R = none) := Lib.hid (by rw [HIs.out, hna, hnb])
      clear HIs CT HS NA NB
      simp only [numR]
      have hka := HK3.out.alloc (Obj.cells #[Value.int .i64 i, Value.int .i64 0] 50)
      have y0 : (w3.alloc (Obj.cells #[Value.int .i64 i, Value.int .i64 0] 50)).cell? ⟨w.heap.size, 0, none⟩ = some (.int .i64 0) := hka.cell (j := 0) rfl
      have y1 : (w3.alloc (Obj.cells #[Value.int .i64 i, Value.int .i64 0] 50)).cell? ⟨w.heap.size, 1, none⟩ = some (.int .i64 0) := hka.cell (j := 1) rfl
      have f0 := hka.free 0
      have f1 := hka.free 1
      have HRB := Lib.hid hka
      have HB4 : Hid (Below w.heap.size w (w3.alloc (Obj.cells #[Value.int .i64 i, Value.int .i64 0] 50))) := Lib.hid (HB3.out.alloc (HB3.out.size) _)
      clear hka HB3 HK3
      go_wp2
      refine bodyPost_ret (results_ct rfl _ _ w.heap.size 50 #[.int .i64 0, .int .i64 0] (0, 0) _ rfl (((HRB.out).set 0 (.int .i64 0)).set 1 (.int .i64 0)) Tryd.underlying50 rfl (by kernel_rfl)) rfl ?_
      exact ⟨by rw [HR.out]; rfl, ((HB4.out).setCell (Nat.le_refl _) _).setCell (Nat.le_refl _) _⟩
    | some g =>
      have hg := NB.out g hnb
      have HC4 := Lib.hid (fun w1 => CT.out i g w1 hi hg)
      have HR : Hid (R = if handleTxt i g = sl then some (i, g) else none) := Lib.hid (by rw [HIs.out, hna, hnb])
      have hS := HS.out (handleTxt i g)
      clear HIs CT HS NA NB hna hnb hi hg
      simp only [numR]
      by_cases ht : handleTxt i g = sl
      · have hS' := hS.2 ht
        rw [hS'] at HC4
        have HR' := Lib.hid (HR.out.trans (if_pos ht))
        clear hS hS' ht HR
        go_wp2_with fail
        refine (HC4.out _ (by first | exact HB3.out | (repeat (first | exact HB3.out | apply below_alloc | apply pw_below_drewN | apply below_drew1)))).mono ?_
        rintro e w4 ⟨rfl, hb⟩
        have hX := (Blk.new w3 #[.int .i64 i, .int .i64 g] 50).below hb
        have hr := (HK3.out.below ((Below.refl _ _).alloc (Nat.le_refl _) (Obj.cells #[Value.int .i64 i, .int .i64 g] 50))).below hb
        have x0 : w4.cell? ⟨w3.heap.size, 0, none⟩ = some (.int .i64 i) := hX.cell (j := 0) rfl
        have x1 : w4.cell? ⟨w3.heap.size, 1, none⟩ = some (.int .i64 g) := hX.cell (j := 1) rfl
        have r0 : w4.cell? ⟨w.heap.size, 0, none⟩ = some (.int .i64 0) := hr.cell (j := 0) rfl
        have r1 : w4.cell? ⟨w.heap.size, 1, none⟩ = some (.int .i64 0) := hr.cell (j := 1) rfl
        have f0 := hr.free 0
        have f1 := hr.free 1
        have HB4 : Hid (Below w.heap.size w w4) := Lib.hid ((HB3.out.trans (((Below.refl _ _).alloc (Nat.le_refl _) _).mono HB3.out.size)).trans (hb.mono (HB3.out.alloc (HB3.out.size) _).size))
        have HRB := Lib.hid hr
        clear hb hX hr HK3 HB3 HC4
        go_wp2
        refine bodyPost_ret (results_ct rfl _ _ w.heap.size 50 #[.int .i64 i, .int .i64 g] (0, 0) _ rfl (((HRB.out).set 0 (.int .i64 i)).set 1 (.int .i64 g)) Tryd.underlying50 rfl (by kernel_rfl)) rfl ?_
        exact ⟨by rw [HR'.out]; rfl, ((HB4.out).setCell (Nat.le_refl _) _).setCell (Nat.le_refl _) _⟩
      · have hne : ((mk (handleTxt i g)).toList == s.toList) = false := beq_eq_false_iff_ne.2 (fun h => ht (hS.1 (toList_inj.1 h)))
        have HR' := Lib.hid (HR.out.trans (if_neg ht))
        generalize mk (handleTxt i g) = tt at *
        clear hS ht HR
        go_wp2_with fail
        refine (HC4.out _ (by first | exact HB3.out | (repeat (first | exact HB3.out | apply below_alloc | apply pw_below_drewN | apply below_drew1)))).mono ?_
        rintro e w4 ⟨rfl, hb⟩
        have hX := (Blk.new w3 #[.int .i64 i, .int .i64 g] 50).below hb
        have hr := (HK3.out.below ((Below.refl _ _).alloc (Nat.le_refl _) (Obj.cells #[Value.int .i64 i, .int .i64 g] 50))).below hb
        have x0 : w4.cell? ⟨w3.heap.size, 0, none⟩ = some (.int .i64 i) := hX.cell (j := 0) rfl
        have x1 : w4.cell? ⟨w3.heap.size, 1, none⟩ = some (.int .i64 g) := hX.cell (j := 1) rfl
        have r0 : w4.cell? ⟨w.heap.size, 0, none⟩ = some (.int .i64 0) := hr.cell (j := 0) rfl
        have r1 : w4.cell? ⟨w.heap.size, 1, none⟩ = some (.int .i64 0) := hr.cell (j := 1) rfl
        have f0 := hr.free 0
        have f1 := hr.free 1
        have HB4 : Hid (Below w.heap.size w w4) := Lib.hid ((HB3.out.trans (((Below.refl _ _).alloc (Nat.le_refl _) _).mono HB3.out.size)).trans (hb.mono (HB3.out.alloc (HB3.out.size) _).size))
        have HRB := Lib.hid hr
        clear hb hX hr HK3 HB3 HC4
        go_wp2
        refine bodyPost_ret (results_ct rfl _ _ w.heap.size 50 #[.int .i64 0, .int .i64 0] (0, 0) _ rfl (((HRB.out).set 0 (.int .i64 0)).set 1 (.int .i64 0)) Tryd.underlying50 rfl (by kernel_rfl)) rfl ?_
        exact ⟨by rw [HR'.out]; rfl, ((HB4.out).setCell (Nat.le_refl _) _).setCell (Nat.le_refl _) _⟩
end Go.Proofs.YtddmlhcjbifkoaaDoor.Verb
namespace Go.Proofs.YtddmlhcjbifkoaaDoor.Verb
open Go.Lib Go.RowKit Go.Proofs.YtddmlhcjbifkoaaDoor.Mem Go.Proofs.YtddmlhcjbifkoaaDoorW.PrintWords Go.Proofs.YtddmlhcjbifkoaaDoor.Item
/-- What is said, in memory. -/
abbrev cellsS (s : SaidV) : Array Value := #[.int .i64 s.say, .int .i64 s.i, .int .i64 s.g, .int .i64 s.t, .int .i64 s.n]
def TakePost (B : Nat) (s : SaidV) (f : Fld) (x : ByteArray) (w : World) (e : Ending) (w' : World) : Prop :=
  ∃ (b : Bool) (s' : SaidV), e = .returned (.bool b) ∧ putF s f x = (if b = true then some s' else none) ∧ Blk w' B (cellsS s') 52 ∧ Chg (fun k => k = B) w w'

set_option maxRecDepth 100000 in
set_option maxHeartbeats 1000000 in
theorem take_t (B : Nat) (s : SaidV) (x : ByteArray) (w : World) (hB : Blk w B (cellsS s) 52) (hs : x.size ≤ 1000000) (he : Env w) :
    Calls Tryd.prog 58 #[.pointer (some ⟨B, 0, none⟩), .int .u8 116, .string x] w (TakePost B s .T x w) := by
  have hu52 := Tryd.underlying52
  have C := Lib.hid (numberOf x w hs he)
  obtain ⟨v, b, hvb⟩ : ∃ v b, numR (num x.data.toList) = (v, b) := ⟨_, _, rfl⟩
  have HP : Hid (putF s .T x = (if b = true then some { s with t := v } else none)) := Lib.hid (by
    unfold putF
    cases hn : num x.data.toList with
    | none => rw [hn] at hvb; injection hvb with h1 h2; subst h2; rfl
    | some u => rw [hn] at hvb; injection hvb with h1 h2; subst h1; subst h2; rfl)
  rw [hvb] at C
  have HX := Lib.hid hB
  clear hvb hB hs he
  go_enter Tryd.func58, Tryd.ntmps58
  go_wp2_with fail
  refine C.out.mono ?_
  rintro e w1 ⟨rfl, hb⟩
  have HX1 := Lib.hid (HX.out.below hb)
  have f3 := HX1.out.free 3
  have c3 : w1.cell? ⟨B, 3, none⟩ = some (.int .i64 s.t) := HX1.out.cell (j := 3) rfl
  have HC1 : Hid (Chg (fun k => k = B) w w1) := Lib.hid (Chg.of_below hb)
  clear hb C HX
  go_wp2_with fail
  go_ret
  exact ⟨b, { s with t := v }, rfl, HP.out, HX1.out.set 3 _, HC1.out.set (p := ⟨B, 3, none⟩) (fun _ => rfl) _⟩
set_option maxRecDepth 100000 in
set_option maxHeartbeats 1000000 in
theorem take_n (B : Nat) (s : SaidV) (x : ByteArray) (w : World) (hB : Blk w B (cellsS s) 52) (hs : x.size ≤ 1000000) (he : Env w) :
    Calls Tryd.prog 58 #[.pointer (some ⟨B, 0, none⟩), .int .u8 110, .string x] w (TakePost B s .N x w) := by
  have hu52 := Tryd.underlying52
  have C := Lib.hid (numberOf x w hs he)
  obtain ⟨v, b, hvb⟩ : ∃ v b, numR (num x.data.toList) = (v, b) := ⟨_, _, rfl⟩
  have HP : Hid (putF s .N x = (if b = true then some { s with n := v } else none)) := Lib.hid (by
    unfold putF
    cases hn : num x.data.toList with
    | none => rw [hn] at hvb; injection hvb with h1 h2; subst h2; rfl
    | some u => rw [hn] at hvb; injection hvb with h1 h2; subst h1; subst h2; rfl)
  rw [hvb] at C
  have HX := Lib.hid hB
  clear hvb hB hs he
  go_enter Tryd.func58, Tryd.ntmps58
  go_wp2_with fail
  refine C.out.mono ?_
  rintro e w1 ⟨rfl, hb⟩
  have HX1 := Lib.hid (HX.out.below hb)
  have f3 := HX1.out.free 4
  have c3 : w1.cell? ⟨B, 4, none⟩ = some (.int .i64 s.n) := HX1.out.cell (j := 4) rfl
  have HC1 : Hid (Chg (fun k => k = B) w w1) := Lib.hid (Chg.of_below hb)
  clear hb C HX
  go_wp2_with fail
  go_ret
  exact ⟨b, { s with n := v }, rfl, HP.out, HX1.out.set 4 _, HC1.out.set (p := ⟨B, 4, none⟩) (fun _ => rfl) _⟩
set_option maxRecDepth 100000 in
set_option maxHeartbeats 1000000 in
theorem take_h (B : Nat) (s : SaidV) (x : ByteArray) (w : World) (hB : Blk w B (cellsS s) 52) (hs : x.size ≤ 1000000) (he : Env w) :
    Calls Tryd.prog 58 #[.pointer (some ⟨B, 0, none⟩), .int .u8 104, .string x] w (TakePost B s .H x w) := by
  have hu52 := Tryd.underlying52
  have hu50 := Tryd.underlying50
  have C := Lib.hid (handleRead x w hs he)
  obtain ⟨v, u, b, hvb⟩ : ∃ v u b, handR (handleOf x.data.toList) = (v, u, b) := ⟨_, _, _, rfl⟩
  have HP : Hid (putF s .H x = (if b = true then some { s with i := v, g := u } else none)) := Lib.hid (by
    unfold putF
    cases hn : handleOf x.data.toList with
    | none => rw [hn] at hvb; injection hvb with h1 h2; injection h2 with h2 h3; subst h3; rfl
    | some p => rw [hn] at hvb; injection hvb with h1 h2; injection h2 with h2 h3; subst h1; subst h2; subst h3; rfl)
  rw [hvb] at C
  have HX := Lib.hid hB
  clear hvb hB hs he
  go_enter Tryd.func58, Tryd.ntmps58
  go_wp2_with fail
  refine C.out.mono ?_
  rintro e w1 ⟨rfl, hb⟩
  have HX1 := Lib.hid (HX.out.below hb)
  have f1 := HX1.out.free 1
  have f2 := HX1.out.free 2
  have c1 : w1.cell? ⟨B, 1, none⟩ = some (.int .i64 s.i) := HX1.out.cell (j := 1) rfl
  have c2 : w1.cell? ⟨B, 2, none⟩ = some (.int .i64 s.g) := HX1.out.cell (j := 2) rfl
  have HC1 : Hid (Chg (fun k => k = B) w w1) := Lib.hid (Chg.of_below hb)
  clear hb C HX
  go_wp2_with fail
  go_ret
  exact ⟨b, { s with i := v, g := u }, rfl, HP.out, (HX1.out.set 1 _).set 2 _, (HC1.out.set (p := ⟨B, 1, none⟩) (fun _ => rfl) _).set (p := ⟨B, 2, none⟩) (fun _ => rfl) _⟩
end Go.Proofs.YtddmlhcjbifkoaaDoor.Verb
namespace Go.Proofs.YtddmlhcjbifkoaaDoor.Verb
open Go.Lib Go.RowKit Go.Proofs.YtddmlhcjbifkoaaDoor.Mem Go.Proofs.YtddmlhcjbifkoaaDoorW.PrintWords Go.Proofs.YtddmlhcjbifkoaaDoor.Item
theorem cell_str {A : Option Addr} {n : Nat} {xs : List ByteArray} {w : World} {i : Nat} {x : ByteArray} (h : Kd.C Kd.string w A n xs) (hx : xs[i]? = some x) : ∃ ad, A = some ad ∧ w.cell? (ad.add i) = some (.string x) := by
  have hi := (List.getElem?_eq_some_iff.1 hx).1
  have hn := Kd.C_len h
  obtain ⟨ad, hA, hc⟩ := h.2.2 (by omega)
  obtain ⟨cs, _, hk, hcell⟩ := hc i x hx
  have hk : cs = [.string x] := hk
  subst hk
  have := hcell 0 (.string x) rfl
  exact ⟨ad, hA, by simpa [Kd.string, Kd.scalar] using this⟩
theorem nameAt_inj : ∀ i, i < 18 → ∀ j, j < 18 → 0 < i → 0 < j → nameAt i = nameAt j → i = j := by
  have h : ∀ i, i < 18 → ∀ j, j < 18 → 0 < i → 0 < j → (nameAt i).data.toList = (nameAt j).data.toList → i = j := by decide +kernel
  exact fun i hi j hj a b e => h i hi j hj a b (by rw [e])
theorem add_zero' (a : Addr) : a.add 0 = a := by
  cases a with
  | mk b o e => unfold Addr.add; split <;> simp_all
/-- What the first word names decides. -/
theorem firstC_of {x : ByteArray} {n j : Nat} (h : findC x 0 = some j) : j < 18 ∧ 0 < j ∧ nameAt j = x ∧ firstC x n 1 = (if (wantsF j).length = n then some j else none) := by
  unfold findC at h
  have h1 := List.find?_some h
  have h2 := List.mem_of_find?_eq_some h
  rw [List.mem_range'_1] at h2
  simp only [Bool.and_eq_true, decide_eq_true_eq] at h1
  have hj : j < 18 := by omega
  refine ⟨hj, h1.1, h1.2, ?_⟩
  unfold firstC
  by_cases hn : (wantsF j).length = n
  · rw [if_pos hn]
    cases hf : (List.range' 1 (18 - 1)).find? (fun j => decide (nameAt j = x) && decide ((wantsF j).length = n)) with
    | none =>
      have := List.find?_eq_none.1 hf j (by rw [List.mem_range'_1]; omega)
      simp [h1.2, hn] at this
    | some i =>
      have h3 := List.find?_some hf
      have h4 := List.mem_of_find?_eq_some hf
      rw [List.mem_range'_1] at h4
      simp only [Bool.and_eq_true, decide_eq_true_eq] at h3
      rw [nameAt_inj i (by omega) j hj (by omega) h1.1 (h3.1.trans h1.2.symm)]
  · rw [if_neg hn, List.find?_eq_none]
    intro i hi
    rw [List.mem_range'_1] at hi
    simp only [Bool.and_eq_true, decide_eq_true_eq, not_and]
    intro e
    rw [nameAt_inj i (by omega) j hj (by omega) h1.1 (e.trans h1.2.symm)]
    exact hn
theorem firstC_none {x : ByteArray} {n : Nat} (h : findC x 0 = none) : firstC x n 1 = none := by
  unfold findC at h
  unfold firstC
  rw [List.find?_eq_none] at h ⊢
  intro i hi
  rw [List.mem_range'_1] at hi
  have := h i (by rw [List.mem_range'_1]; omega)
  simp only [Bool.and_eq_true, decide_eq_true_eq, not_and] at this ⊢
  intro e
  exact absurd e (this (by omega))
def ParsePost (ws : List ByteArray) (w : World) (e : Ending) (w' : World) : Prop := e = .returned (.tuple #[.agg (cellsS (parseR ws).1), .int .i64 (parseR ws).2]) ∧ Below w.heap.size w w'
set_option maxRecDepth 100000 in
set_option maxHeartbeats 1000000 in
theorem parse_nil (A : Option Addr) (c : Nat) (w : World) : Calls Tryd.prog 32 #[.slice A 0 c] w (ParsePost [] w) := by
  have hu52 := Tryd.underlying52
  have hu50 := Tryd.underlying50
  have HX : Hid (Blk (w.alloc (Obj.cells #[Value.int .i64 0, .int .i64 0, .int .i64 0, .int .i64 0, .int .i64 0] 52)) w.heap.size #[Value.int .i64 0, .int .i64 0, .int .i64 0, .int .i64 0, .int .i64 0] 52) := Lib.hid (Blk.new _ _ _)
  have HB : Hid (Below w.heap.size w (w.alloc (Obj.cells #[Value.int .i64 0, .int .i64 0, .int .i64 0, .int .i64 0, .int .i64 0] 52))) := Lib.hid ((Below.refl _ _).alloc (Nat.le_refl _) _)
  have HR : Hid (parseR [] = (zeroS, 0)) := Lib.hid rfl
  have t0 : (((0 : Nat) : Int) == 0) = true := rfl
  go_enter Tryd.func32, Tryd.ntmps32
  go_wp2_with fail
  refine bodyPost_ret (results_ct rfl _ _ w.heap.size 52 #[Value.int .i64 0, .int .i64 0, .int .i64 0, .int .i64 0, .int .i64 0] (0, 0) _ rfl HX.out Tryd.underlying52 rfl (by kernel_rfl)) rfl ?_
  exact ⟨by rw [HR.out]; rfl, HB.out⟩
set_option maxRecDepth 100000 in
set_option maxHeartbeats 1000000 in
theorem parse_none (A : Option Addr) (c : Nat) (x : ByteArray) (r : List ByteArray) (w : World) (hC : Kd.C Kd.string w A (x :: r).length (x :: r)) (hT : Tbl w) (hn : findC x 0 = none) : Calls Tryd.prog 32 #[.slice A (x :: r).length c] w (ParsePost (x :: r) w) := by
  have hu52 := Tryd.underlying52
  have hu50 := Tryd.underlying50
  have HX : Hid (Blk (w.alloc (Obj.cells #[Value.int .i64 0, .int .i64 0, .int .i64 0, .int .i64 0, .int .i64 0] 52)) w.heap.size #[Value.int .i64 0, .int .i64 0, .int .i64 0, .int .i64 0, .int .i64 0] 52) := Lib.hid (Blk.new _ _ _)
  have hb : Below w.heap.size w (w.alloc (Obj.cells #[Value.int .i64 0, .int .i64 0, .int .i64 0, .int .i64 0, .int .i64 0] 52)) := (Below.refl _ _).alloc (Nat.le_refl _) _
  have HB := Lib.hid hb
  obtain ⟨ad, hA, c0⟩ := cell_str (Kd.C_below hC hb) (i := 0) rfl
  subst hA
  rw [add_zero'] at c0
  have CF := Lib.hid (find_ x _ (hT.step hb))
  rw [hn] at CF
  have HR : Hid (parseR (x :: r) = (zeroS, 31)) := Lib.hid (by show parseC (firstC x r.length 1) r = _; rw [firstC_none hn]; rfl)
  have hl : (((x :: r).length : Nat) : Int) ≠ 0 := by rw [List.length_cons]; omega
  have hl0 : (0 : Int) < (((x :: r).length : Nat) : Int) := by rw [List.length_cons]; omega
  have t0 : ((((x :: r).length : Nat) : Int) == 0) = false := beq_eq_false_iff_ne.2 hl
  generalize (x :: r).length = n at *
  clear hb hC hT hn hl
  go_enter Tryd.func32, Tryd.ntmps32
  go_wp2_with fail
  refine CF.out.mono ?_
  rintro e w1 ⟨rfl, hb⟩
  have HX1 := Lib.hid (HX.out.below hb)
  have HB1 := Lib.hid (HB.out.trans (hb.mono HB.out.size))
  have d0 := HX1.out.cell (j := 0) rfl
  have d1 := HX1.out.cell (j := 1) rfl
  have d2 := HX1.out.cell (j := 2) rfl
  have d3 := HX1.out.cell (j := 3) rfl
  have d4 := HX1.out.cell (j := 4) rfl
  have f0 := HX1.out.free 0
  have f1 := HX1.out.free 1
  have f2 := HX1.out.free 2
  have f3 := HX1.out.free 3
  have f4 := HX1.out.free 4
  clear hb c0 CF HX HB
  simp only [findI]
  go_wp2_with fail
  refine bodyPost_ret (results_ct rfl _ _ w.heap.size 52 #[Value.int .i64 0, .int .i64 0, .int .i64 0, .int .i64 0, .int .i64 0] (0, 0) _ rfl ((((((HX1.out).set 0 (.int .i64 0)).set 1 (.int .i64 0)).set 2 (.int .i64 0)).set 3 (.int .i64 0)).set 4 (.int .i64 0)) Tryd.underlying52 rfl (by kernel_rfl)) rfl ?_
  exact ⟨by rw [HR.out]; rfl, (((((HB1.out).setCell (Nat.le_refl _) _).setCell (Nat.le_refl _) _).setCell (Nat.le_refl _) _).setCell (Nat.le_refl _) _).setCell (Nat.le_refl _) _⟩
end Go.Proofs.YtddmlhcjbifkoaaDoor.Verb
