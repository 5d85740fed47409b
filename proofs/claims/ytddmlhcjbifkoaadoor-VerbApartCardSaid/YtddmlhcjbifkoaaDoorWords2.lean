/- words.Join of the program and of the document, the document's comparisons; the law on any words. No conditions. -/
import Derived.Test.YtddmlhcjbifkoaaDoorWords
import Derived.Lib.Join
import Derived.WideShapes
namespace Go.Proofs.YtddmlhcjbifkoaaDoor.Words
open Go.RowKit Go.Proofs.YtddmlhcjbifkoaaDoor.Mem Go.Proofs.YtddmlhcjbifkoaaDoorW.PrintWords
open Go.Proofs.YtddmlhcjbifkoaaDoor.PWordsJoins

/-- From some number of rounds on. -/
def Evt {α : Type} (f : Nat → Option α) (r : α) : Prop := ∃ K, ∀ k, K ≤ k → f k = some r
theorem evt_of {α : Type} {f : Nat → Option α} {r : α} (hm : ∀ k, LeO (f k) (f (k + 1))) {K : Nat} (h : f K = some r) : Evt f r := by
  refine ⟨K, fun k hk => ?_⟩
  obtain ⟨n, rfl⟩ := Nat.exists_eq_add_of_le hk
  induction n with
  | zero => exact h
  | succ n ih => exact hm _ _ (ih (by omega))

theorem up_ (i : Nat) (h : i ≤ 1000000) : wrap64 ((i : Int) + 1) = ((i + 1 : Nat) : Int) := by unfold wrap64; omega
theorem rd_is {l : List ByteArray} {i : Nat} {x : ByteArray} (h : l[i]? = some x) : rdOf ByteArray.empty l (i : Int) = x := by
  unfold rdOf
  rw [Int.toNat_natCast, List.getD, h]; rfl
theorem toList_inj {a b : ByteArray} : a.toList = b.toList ↔ a = b := by
  rw [ByteArray.toList_eq, ByteArray.toList_eq]
  exact ⟨fun h => Go.WideShapes.bytes_inj h, fun h => by rw [h]⟩

theorem same_go (l m : List ByteArray) (hn : l.length = m.length) (hl : l.length ≤ 1000000) : ∀ (d i : Nat), i + d = l.length → whilomref20_Same.l0 (d + 1) l m (i : Int) = some (decide (l.drop i = m.drop i)) := by
  intro d
  induction d with
  | zero =>
    intro i hi
    rw [whilomref20_Same.l0, if_neg (by omega)]
    have e1 : l.drop i = [] := by rw [List.drop_eq_nil_iff]; omega
    have e2 : m.drop i = [] := by rw [List.drop_eq_nil_iff]; omega
    rw [e1, e2]; rfl
  | succ d ih =>
    intro i hi
    have h1 : i < l.length := by omega
    have h2 : i < m.length := by omega
    rw [whilomref20_Same.l0, if_pos (by omega), if_pos (by omega), if_pos (by omega), rd_is (List.getElem?_eq_getElem h1), rd_is (List.getElem?_eq_getElem h2), up_ i (by omega)]
    by_cases e : l[i] = m[i]
    · rw [if_pos (toList_inj.2 e), ih (i + 1) (by omega)]
      refine congrArg some (decide_eq_decide.2 ?_)
      rw [List.drop_eq_getElem_cons h1, List.drop_eq_getElem_cons h2, e]
      simp only [List.cons.injEq, true_and]
    · rw [if_neg (fun h => e (toList_inj.1 h))]
      refine congrArg some (decide_eq_false ?_).symm
      rw [List.drop_eq_getElem_cons h1, List.drop_eq_getElem_cons h2]
      intro h
      exact e (List.cons.inj h).1
theorem same_ev (l m : List ByteArray) (hl : l.length ≤ 1000000) : Evt (fun k => whilomref20_Same.f k l m) (decide (l = m)) := by
  refine evt_of (fun k => whilomref20_Same.mono l m k) (K := l.length + 1) ?_
  unfold whilomref20_Same.f
  by_cases hn : l.length = m.length
  · rw [if_pos (by omega)]
    exact same_go l m hn hl l.length 0 (by omega)
  · rw [if_neg (by omega)]
    have : l ≠ m := fun e => hn (by rw [e])
    simp [this]
theorem equal_go (l m : List ByteArray) (hn : l.length = m.length) (hl : l.length ≤ 1000000) : ∀ (d i : Nat), i + d = l.length → slices_Equal_string_string.l0 (d + 1) l m (l.length : Int) (i : Int) = some (decide (l.drop i = m.drop i)) := by
  intro d
  induction d with
  | zero =>
    intro i hi
    rw [slices_Equal_string_string.l0, if_neg (by omega)]
    have e1 : l.drop i = [] := by rw [List.drop_eq_nil_iff]; omega
    have e2 : m.drop i = [] := by rw [List.drop_eq_nil_iff]; omega
    rw [e1, e2]; rfl
  | succ d ih =>
    intro i hi
    have h1 : i < l.length := by omega
    have h2 : i < m.length := by omega
    rw [slices_Equal_string_string.l0, if_pos (by omega), if_pos (by omega), if_pos (by omega), if_pos (by omega), rd_is (List.getElem?_eq_getElem h1), rd_is (List.getElem?_eq_getElem h2), up_ i (by omega)]
    by_cases e : l[i] = m[i]
    · rw [if_pos (toList_inj.2 e), ih (i + 1) (by omega)]
      refine congrArg some (decide_eq_decide.2 ?_)
      rw [List.drop_eq_getElem_cons h1, List.drop_eq_getElem_cons h2, e]
      simp only [List.cons.injEq, true_and]
    · rw [if_neg (fun h => e (toList_inj.1 h))]
      refine congrArg some (decide_eq_false ?_).symm
      rw [List.drop_eq_getElem_cons h1, List.drop_eq_getElem_cons h2]
      intro h
      exact e (List.cons.inj h).1
theorem equal_ev (l m : List ByteArray) (hl : l.length ≤ 1000000) : Evt (fun k => slices_Equal_string_string.f k l m) (decide (l = m)) := by
  refine evt_of (fun k => slices_Equal_string_string.mono l m k) (K := l.length + 1) ?_
  unfold slices_Equal_string_string.f
  by_cases hn : l.length = m.length
  · rw [if_pos (by omega)]
    exact equal_go l m hn hl l.length 0 (by omega)
  · rw [if_neg (by omega)]
    have : l ≠ m := fun e => hn (by rw [e])
    simp [this]

theorem split_ev (s : ByteArray) : Evt (fun k => whilomref20_Split.f k s) (splitS s) := by
  by_cases h : 200 < s.size
  · refine ⟨0, fun k _ => ?_⟩
    simp only [whilomref20_Split.f, splitS]
    rw [if_pos (by omega), if_pos h]
  · obtain ⟨K, hK⟩ := ref_split s (by omega)
    exact evt_of (fun k => whilomref20_Split.mono s k) hK

/-- Words with a blank between them. -/
def joinB (l : List ByteArray) : ByteArray := mk (Lib.join (l.map (·.data.toList)) [32])
/-- The line of words, if they are its words. -/
def joinS (l : List ByteArray) : ByteArray × Bool := if (splitS (joinB l)).2 = 0 ∧ l = (splitS (joinB l)).1 then (joinB l, true) else (⟨#[]⟩, false)

theorem mk_append (a b : List UInt8) : mk a ++ mk b = mk (a ++ b) := by
  apply ByteArray.ext
  apply Array.ext'
  simp [mk, ByteArray.data_append]
theorem joinB_one (x : ByteArray) : joinB [x] = x := by
  unfold joinB
  simp only [List.map_cons, List.map_nil, Lib.join_one]
  exact mk_data x
theorem joinB_snoc (l : List ByteArray) (x : ByteArray) (h : l ≠ []) : joinB (l ++ [x]) = (joinB l ++ (⟨#[32]⟩ : ByteArray)) ++ x := by
  obtain ⟨y, r, rfl⟩ := List.exists_cons_of_ne_nil h
  unfold joinB
  simp only [List.cons_append, List.map_cons, List.map_append, List.map_nil, Lib.join_cons]
  have e : Lib.joinTail [32] (r.map (·.data.toList) ++ [x.data.toList]) = Lib.joinTail [32] (r.map (·.data.toList)) ++ [32] ++ x.data.toList := by simp [Lib.joinTail]
  have hx := mk_data x
  rw [e]
  conv => rhs; rw [← hx]
  rw [show (⟨#[32]⟩ : ByteArray) = mk [32] from rfl, mk_append, mk_append]
  congr 1
  simp only [List.append_assoc]

/-- Words that are short, and few. -/
def Short (l : List ByteArray) : Prop := l.length ≤ 20 ∧ ∀ x ∈ l, x.size ≤ 100

theorem join_go (l : List ByteArray) (hs : Short l) (K : Nat) (h1 : ∀ k, K ≤ k → whilomref20_Split.f k (joinB l) = some (splitS (joinB l))) (h2 : ∀ k, K ≤ k → whilomref20_Same.f k l (splitS (joinB l)).1 = some (decide (l = (splitS (joinB l)).1))) :
    ∀ (d i : Nat), i + d = l.length → (joinB (l.take i)).size ≤ 101 * i → whilomref20_Join.l0 (K + d + 1) l (joinB (l.take i)) (i : Int) = some (joinS l) := by
  intro d
  induction d with
  | zero =>
    intro i hi hb
    rw [whilomref20_Join.l0, if_neg (by omega), List.take_of_length_le (by omega), h1 _ (by omega)]
    simp only [Option.bind_some]
    unfold joinS
    by_cases h0 : (splitS (joinB l)).2 = 0
    · rw [if_pos h0, h2 _ (by omega)]
      simp only [Option.bind_some]
      by_cases he : l = (splitS (joinB l)).1
      · rw [if_pos (by simpa using he), if_pos ⟨h0, he⟩]
      · rw [if_neg (by simpa using he), if_neg (fun h => he h.2)]
    · rw [if_neg h0, if_neg (fun h => h0 h.1)]
  | succ d ih =>
    intro i hi hb
    have hlt : i < l.length := by omega
    have hx := List.getElem?_eq_getElem hlt
    have hxs : (l[i]).size ≤ 100 := hs.2 _ (List.getElem_mem hlt)
    have hn := hs.1
    have htk : l.take (i + 1) = l.take i ++ [l[i]] := List.take_succ_eq_append_getElem hlt
    rw [show K + (d + 1) + 1 = (K + d + 1) + 1 by omega, whilomref20_Join.l0, if_pos (by omega), rd_is hx, up_ i (by omega)]
    by_cases h0 : i = 0
    · subst h0
      have e1 : joinB (l.take (0 + 1)) = l[0] := by rw [htk, List.take_zero, List.nil_append, joinB_one]
      have e0 : joinB (l.take 0) ++ l[0] = l[0] := by
        rw [List.take_zero]
        have : joinB [] = mk [] := rfl
        rw [this]
        conv => lhs; rw [← mk_data l[0]]
        rw [mk_append, List.nil_append]
        exact mk_data _
      rw [if_neg (by omega), if_pos (by omega), if_pos (by omega), e0]
      have := ih (0 + 1) (by omega) (by rw [e1]; omega)
      rw [e1] at this
      exact this
    · have hne : l.take i ≠ [] := by
        intro h
        have := congrArg List.length h
        rw [List.length_take, List.length_nil] at this
        omega
      have e1 : joinB (l.take (i + 1)) = (joinB (l.take i) ++ (⟨#[32]⟩ : ByteArray)) ++ l[i] := by rw [htk, joinB_snoc _ _ hne]
      have es : (joinB (l.take i) ++ (⟨#[32]⟩ : ByteArray)).size = (joinB (l.take i)).size + 1 := by rw [ByteArray.size_append]; rfl
      rw [if_pos (by omega), if_pos (by omega), if_pos (by omega), if_pos (by rw [es]; omega), ← e1]
      exact ih (i + 1) (by omega) (by rw [e1, ByteArray.size_append, es]; omega)

theorem splitS_len (s : ByteArray) : (splitS s).1.length ≤ 8 := by
  unfold splitS; split; simp; split; simp; split; simp; simp; omega
theorem join_ev (l : List ByteArray) (hs : Short l) : ∃ K, whilomref20_Join.f K l = some (joinS l) := by
  obtain ⟨K1, h1⟩ := split_ev (joinB l)
  obtain ⟨K2, h2⟩ := same_ev l (splitS (joinB l)).1 (by have := hs.1; omega)
  refine ⟨(K1 + K2) + l.length + 1, ?_⟩
  have := join_go l hs (K1 + K2) (fun k hk => h1 k (by omega)) (fun k hk => h2 k (by omega)) l.length 0 (by omega) (by rw [List.take_zero]; exact Nat.le_of_eq rfl)
  rw [List.take_zero] at this
  exact this

/-- What Join leaves. -/
def JoinOut (l : List ByteArray) (w : World) (e : Ending) (w' : World) : Prop := e = .returned (.tuple #[.string (joinS l).1, .bool (joinS l).2]) ∧ Below w.heap.size w w'
theorem joinB_size (l : List ByteArray) (hs : Short l) : (joinB l).size ≤ 2020 := by
  have : ∀ i, i ≤ l.length → (joinB (l.take i)).size ≤ 101 * i := by
    intro i
    induction i with
    | zero => intro _; rw [List.take_zero]; exact Nat.le_of_eq rfl
    | succ i ih =>
      intro hi
      have hlt : i < l.length := by omega
      have hxs : (l[i]).size ≤ 100 := hs.2 _ (List.getElem_mem hlt)
      have htk : l.take (i + 1) = l.take i ++ [l[i]] := List.take_succ_eq_append_getElem hlt
      have := ih (by omega)
      by_cases h0 : l.take i = []
      · rw [htk, h0, List.nil_append, joinB_one]; omega
      · rw [htk, joinB_snoc _ _ h0, ByteArray.size_append, ByteArray.size_append]
        have : (⟨#[32]⟩ : ByteArray).size = 1 := rfl
        omega
  have h := this l.length (Nat.le_refl _)
  rw [List.take_length] at h
  have := hs.1
  omega

set_option maxRecDepth 100000 in
set_option maxHeartbeats 1000000 in
theorem join (A : Option Addr) (c : Nat) (l : List ByteArray) (w : World) (hs : Short l) (hr : Kd.C Kd.string w A l.length l) (hc : l.length ≤ c) (ht : Tab w) : Calls Tryd.prog 21 #[.slice A l.length c] w (JoinOut l w) := by
  have HT := Lib.hid ht; have HR := Lib.hid hr; have HS := Lib.hid hs
  have HSZ := Lib.hid (joinB_size l hs)
  have hjoin : Calls Tryd.prog 48 #[.slice A l.length c, .string ⟨#[32]⟩] w fun e w' => e = .returned (.string (joinB l)) ∧ Below w.heap.size w w' := by
    by_cases h0 : l = []
    · subst h0
      refine (Tryd.strings_Join_none A c ⟨#[32]⟩ w).mono ?_
      rintro e w' ⟨rfl, rfl⟩
      exact ⟨rfl, Below.refl _ _⟩
    · have hpos : 0 < l.length := List.length_pos_iff.2 h0
      obtain ⟨ad, rfl, hcell⟩ := hr.2.2 hpos
      have hall : ∀ (j : Nat) x, l[j]? = some x → w.cell? (ad.add j) = some (.string x) := by
        intro j x hx
        obtain ⟨cs, _, hk, hc2⟩ := hcell j x hx
        have hk : cs = [.string x] := hk
        subst hk
        simpa [Kd.string, Kd.scalar] using hc2 0 (.string x) rfl
      obtain ⟨x0, hx0⟩ : ∃ x0, l[0]? = some x0 := ⟨_, List.getElem?_eq_getElem hpos⟩
      have h00 := hall 0 x0 hx0
      have hsp : ad.spot = none := by
        simp only [Addr.add, if_true] at h00
        unfold World.cell? at h00
        split at h00
        · split at h00
          · cases h00
          · rename_i hns
            cases hq : ad.spot with
            | none => rfl
            | some _ => simp [hq] at hns
        · cases h00
      obtain ⟨bk, o, sp⟩ := ad
      simp only at hsp
      subst hsp
      have hbk : bk < w.heap.size := by
        have := World.block_lt_of_cell? w _ h00
        simpa [Addr.add] using this
      refine (Tryd.strings_Join bk o c l ⟨#[32]⟩ w ?_ hbk (by have := hs.1; omega) hc ?_).mono ?_
      · intro j x hx
        have := hall j x hx
        by_cases e : j = 0
        · subst e; simpa [Addr.add] using this
        · simpa [Addr.add, e] using this
      · have := HSZ.out
        unfold joinB at this
        rw [mk_size] at this
        exact Nat.le_trans this (by decide)
      · rintro e w' ⟨rfl, hb⟩
        exact ⟨rfl, hb⟩
  have HJ := Lib.hid hjoin
  obtain ⟨r, hr2⟩ : ∃ r, splitS (joinB l) = r := ⟨_, rfl⟩
  have HR2 := Lib.hid hr2
  clear hjoin hr hs ht hr2
  go_enter Tryd.func21, Tryd.ntmps21
  go_wp2_with fail
  refine (HJ.out).mono ?_
  rintro e w1 ⟨rfl, hb⟩
  have HB1 := Lib.hid hb
  clear hb HJ
  go_wp2_with fail
  refine (split (joinB l) _ (by have := HSZ.out; omega) (HT.out.step HB1.out)).mono ?_
  rintro e w2 ⟨A2, c2, rfl, hc2, hC2, hb2⟩
  rw [HR2.out] at hc2 hC2
  rw [HR2.out]
  have HB2 : Hid (Below w.heap.size w w2) := Lib.hid (HB1.out.trans (hb2.mono HB1.out.size))
  have HC2 := Lib.hid hC2
  have HL : Hid (Kd.C Kd.string w2 A l.length l) := Lib.hid (Kd.C_below HR.out HB2.out)
  have HJS : Hid (joinS l = if r.2 = 0 ∧ l = r.1 then (joinB l, true) else (⟨#[]⟩, false)) := Lib.hid (by unfold joinS; rw [HR2.out])
  clear hb2 hC2
  obtain ⟨ws, n⟩ := r
  by_cases hn : n = 0
  · subst hn
    obtain ⟨K, hK⟩ := equal_ev ws l (by have := splitS_len (joinB l); rw [HR2.out] at this; simp at this; omega)
    have HK := Lib.hid (hK K (Nat.le_refl _))
    clear hK
    by_cases he : ws = l
    · have HE : Hid (joinS l = (joinB l, true)) := Lib.hid (by rw [HJS.out, if_pos ⟨rfl, he.symm⟩])
      rw [decide_eq_true he] at HK
      clear he HJS
      go_wp2_with fail
      refine (slices_Equal_string_string.calls K A2 c2 ws A c l true _ HC2.out hc2 HL.out hc HK.out).mono ?_
      rintro e w3 ⟨rfl, hd⟩
      have HB3 : Hid (Below w.heap.size w w3) := Lib.hid (HB2.out.trans (hd.below.mono HB2.out.size))
      clear hd
      go_wp2_with fail
      go_ret2
      unfold JoinOut
      rw [HE.out]
      exact ⟨rfl, HB3.out⟩
    · have HE : Hid (joinS l = (⟨#[]⟩, false)) := Lib.hid (by rw [HJS.out, if_neg (fun h => he h.2.symm)])
      rw [decide_eq_false he] at HK
      clear he HJS
      go_wp2_with fail
      refine (slices_Equal_string_string.calls K A2 c2 ws A c l false _ HC2.out hc2 HL.out hc HK.out).mono ?_
      rintro e w3 ⟨rfl, hd⟩
      have HB3 : Hid (Below w.heap.size w w3) := Lib.hid (HB2.out.trans (hd.below.mono HB2.out.size))
      clear hd
      go_wp2_with fail
      go_ret2
      unfold JoinOut
      rw [HE.out]
      exact ⟨rfl, HB3.out⟩
  · have HE : Hid (joinS l = (⟨#[]⟩, false)) := Lib.hid (by rw [HJS.out, if_neg (fun h => hn h.1)])
    have hnb : (n != 0) = true := by simpa using hn
    clear HJS
    go_wp2_with fail
    go_ret2
    unfold JoinOut
    rw [HE.out]
    exact ⟨rfl, HB2.out⟩
end Go.Proofs.YtddmlhcjbifkoaaDoor.Words
