/- The law on more blanks answers true, at any words. No conditions. -/
import Derived.Test.YtddmlhcjbifkoaaDoorWords3
import Derived.OpenShut
namespace Go.Proofs.YtddmlhcjbifkoaaDoor.Words
open Go.RowKit Go.Proofs.YtddmlhcjbifkoaaDoor.Mem Go.Proofs.YtddmlhcjbifkoaaDoorW.PrintWords
open Go.Proofs.YtddmlhcjbifkoaaDoor.PWordsJoins

def sps (b : Nat) : List UInt8 := List.replicate b 32
/-- A row of words with blanks behind each. -/
def rowOf (b : Nat) (l : List ByteArray) : List UInt8 := (l.map fun x => x.data.toList ++ sps b).flatten
def lineOf (b : Nat) (l : List ByteArray) : ByteArray := mk (sps b ++ rowOf b l)

theorem isSp32 : Lib.isSp 32 = true := by decide
theorem go_sps (b : Nat) (rest : List UInt8) : Lib.fieldsGo [] (sps b ++ rest) = Lib.fieldsGo [] rest := by
  induction b with
  | zero => rfl
  | succ b ih =>
    show Lib.fieldsGo [] (32 :: (sps b ++ rest)) = _
    rw [Lib.fieldsGo, if_pos isSp32]
    simp only [List.isEmpty_nil, if_true]
    exact ih
theorem go_word (x cur rest : List UInt8) (h : ∀ c ∈ x, Lib.isSp c = false) : Lib.fieldsGo cur (x ++ rest) = Lib.fieldsGo (cur ++ x) rest := by
  induction x generalizing cur with
  | nil => simp
  | cons c x ih =>
    have hc := h c (by simp)
    rw [List.cons_append, Lib.fieldsGo]
    simp only [hc, Bool.false_eq_true, if_false]
    rw [ih (cur ++ [c]) (fun d hd => h d (by simp [hd]))]
    simp
theorem go_row (b : Nat) (hb : 1 ≤ b) (l : List ByteArray) (h : ∀ x ∈ l, x.data.toList ≠ [] ∧ ∀ c ∈ x.data.toList, Lib.isSp c = false) : Lib.fieldsGo [] (rowOf b l) = l.map (·.data.toList) := by
  induction l with
  | nil => rfl
  | cons x l ih =>
    obtain ⟨h1, h2⟩ := h x (by simp)
    obtain ⟨k, rfl⟩ : ∃ k, b = k + 1 := ⟨b - 1, by omega⟩
    have e : rowOf (k + 1) (x :: l) = x.data.toList ++ (32 :: (sps k ++ rowOf (k + 1) l)) := by simp [rowOf, sps, List.replicate_succ]
    rw [e, go_word _ _ _ h2, List.nil_append, Lib.fieldsGo, if_pos isSp32]
    have he : x.data.toList.isEmpty = false := by cases hx : x.data.toList <;> simp_all
    simp only [he, Bool.false_eq_true, if_false, List.map_cons]
    rw [go_sps, ih (fun y hy => h y (by simp [hy]))]

theorem fields_of (l : List UInt8) : ∀ (cur : List UInt8), (∀ c ∈ cur, Lib.isSp c = false) → ∀ f ∈ Lib.fieldsGo cur l, f ≠ [] ∧ (∀ c ∈ f, Lib.isSp c = false) ∧ ∀ c ∈ f, c ∈ cur ∨ c ∈ l := by
  induction l with
  | nil =>
    intro cur hc f hf
    rw [Lib.fieldsGo] at hf
    split at hf
    · simp at hf
    · rename_i he
      simp at hf
      subst hf
      exact ⟨by intro e; subst e; simp at he, hc, fun c h => Or.inl h⟩
  | cons b l ih =>
    intro cur hc f hf
    rw [Lib.fieldsGo] at hf
    cases hb : Lib.isSp b
    · simp only [hb, Bool.false_eq_true, if_false] at hf
      obtain ⟨h1, h2, h3⟩ := ih (cur ++ [b]) (by intro c h; rcases List.mem_append.1 h with h | h; exact hc c h; rw [List.mem_singleton.1 h]; exact hb) f hf
      refine ⟨h1, h2, fun c h => ?_⟩
      rcases h3 c h with h | h
      · rcases List.mem_append.1 h with h | h
        · exact Or.inl h
        · right; rw [List.mem_singleton.1 h]; simp
      · right; simp [h]
    · simp only [hb, if_true] at hf
      have step : ∀ f ∈ Lib.fieldsGo [] l, f ≠ [] ∧ (∀ c ∈ f, Lib.isSp c = false) ∧ ∀ c ∈ f, c ∈ cur ∨ c ∈ b :: l := by
        intro f hf
        obtain ⟨h1, h2, h3⟩ := ih [] (by simp) f hf
        refine ⟨h1, h2, fun c h => ?_⟩
        rcases h3 c h with h | h
        · simp at h
        · right; simp [h]
      split at hf
      · exact step f hf
      · rename_i he
        rcases List.mem_cons.1 hf with rfl | hf
        · exact ⟨by intro e; subst e; simp at he, hc, fun c h => Or.inl h⟩
        · exact step f hf

theorem split_line (b : Nat) (hb : 1 ≤ b) (l : List ByteArray) (hz : (lineOf b l).size ≤ 200) (h : splitS (joinB l) = (l, 0)) : splitS (lineOf b l) = (l, 0) := by
  have hj : ¬ 200 < (joinB l).size ∧ (joinB l).data.toList.any bad = false ∧ ¬ 8 < (wordsOf (joinB l)).length ∧ wordsOf (joinB l) = l := by
    unfold splitS at h
    split at h
    · simp at h
    · rename_i h1
      split at h
      · simp at h
      · rename_i h2
        split at h
        · simp at h
        · rename_i h3
          exact ⟨h1, by simpa using h2, h3, (Prod.ext_iff.1 h).1⟩
  obtain ⟨_, hbad, h8, hw⟩ := hj
  have hall : ∀ x ∈ l, x.data.toList ≠ [] ∧ (∀ c ∈ x.data.toList, Lib.isSp c = false) ∧ ∀ c ∈ x.data.toList, bad c = false := by
    intro x hx
    rw [← hw] at hx
    unfold wordsOf at hx
    obtain ⟨f, hf, rfl⟩ := List.mem_map.1 hx
    obtain ⟨h1, h2, h3⟩ := fields_of _ [] (by simp) f hf
    refine ⟨by simpa using h1, by simpa using h2, ?_⟩
    intro c hc
    have hc' : c ∈ f := by simpa using hc
    rcases h3 c hc' with h | h
    · simp at h
    · simpa using List.any_eq_false.1 hbad c h
  have hline : (lineOf b l).data.toList = sps b ++ rowOf b l := mk_toList _
  have hnb : (lineOf b l).data.toList.any bad = false := by
    rw [hline, List.any_eq_false]
    intro c hc
    have h32 : bad 32 = false := by decide
    rcases List.mem_append.1 hc with hc | hc
    · rw [List.eq_of_mem_replicate hc, h32]; simp
    · unfold rowOf at hc
      obtain ⟨y, hy, hcy⟩ := List.mem_flatten.1 hc
      obtain ⟨x, hx, rfl⟩ := List.mem_map.1 hy
      rcases List.mem_append.1 hcy with h | h
      · rw [(hall x hx).2.2 c h]; simp
      · rw [List.eq_of_mem_replicate h, h32]; simp
  have hfl : wordsOf (lineOf b l) = l := by
    unfold wordsOf Lib.fields
    rw [hline, go_sps, go_row b hb l (fun x hx => ⟨(hall x hx).1, (hall x hx).2.1⟩), List.map_map]
    conv => rhs; rw [← List.map_id l]
    apply List.map_congr_left
    intro x _
    exact mk_data x
  have hl8 : ¬ 8 < l.length := by rw [hw] at h8; exact h8
  unfold splitS
  rw [if_neg (by omega), hnb, if_neg (by simp), hfl, if_neg hl8]

theorem row_len (b : Nat) (l : List ByteArray) (h : ∀ x ∈ l, x.size ≤ 10) : (rowOf b l).length ≤ l.length * (10 + b) := by
  induction l with
  | nil => simp [rowOf]
  | cons x l ih =>
    have h1 := h x (by simp)
    have h2 := ih (fun y hy => h y (by simp [hy]))
    have e : (rowOf b (x :: l)).length = x.size + b + (rowOf b l).length := by simp [rowOf, sps]; omega
    rw [e, List.length_cons, Nat.succ_mul]
    omega
theorem line_snoc (b : Nat) (l : List ByteArray) (x : ByteArray) : (lineOf b l ++ x) ++ mk (sps b) = lineOf b (l ++ [x]) := by
  unfold lineOf
  conv => lhs; rw [← mk_data x]
  rw [mk_append, mk_append]
  congr 1
  simp [rowOf]
theorem sps_snoc (b : Nat) : mk (sps b) ++ (⟨#[32]⟩ : ByteArray) = mk (sps (b + 1)) := by
  rw [show (⟨#[32]⟩ : ByteArray) = mk [32] from rfl, mk_append]
  congr 1
  simp [sps, List.replicate_succ']

theorem line_size (b : Nat) (l : List ByteArray) : (lineOf b l).size = b + (rowOf b l).length := by
  unfold lineOf
  rw [mk_size, List.length_append]
  simp [sps]

set_option maxRecDepth 100000 in
set_option maxHeartbeats 2000000 in
theorem walk_blanks_long (A : Option Addr) (len cap : Nat) (n : Int) (w : World) (ht : Tab w) (hbig : 8 < len) :
    Calls Tryd.prog 4 #[.slice A len cap, .int .u8 n] w fun e w' => e = .returned (.bool true) ∧ Below w.heap.size w w' := by
  have HT := Lib.hid ht
  clear ht
  have hz : (8 : Int) < (len : Int) := by omega
  clear hbig
  go_enter Tryd.func4, Tryd.ntmps4
  go_wp2_with fail
  refine (awake _ HT.out).mono ?_
  rintro e w1 ⟨rfl, hb1⟩
  have HB1 := Lib.hid hb1; clear hb1
  go_wp2_with fail
  refine (awake _ (HT.out.step HB1.out)).mono ?_
  rintro e w2 ⟨rfl, hb2⟩
  have HB2 := Lib.hid hb2; clear hb2
  go_wp2_with fail
  go_ret
  exact ⟨rfl, HB1.out.trans (HB2.out.mono HB1.out.size)⟩

set_option maxRecDepth 100000 in
set_option maxHeartbeats 4000000 in
theorem walk_blanks_short (A : Option Addr) (cap : Nat) (l : List ByteArray) (n : Nat) (w : World) (hr : Kd.C Kd.string w A l.length l) (hl : l.length ≤ cap) (hn : n ≤ 255) (ht : Tab w) (hlen : l.length ≤ 8) :
    Calls Tryd.prog 4 #[.slice A l.length cap, .int .u8 n] w fun e w' => e = .returned (.bool true) ∧ Below w.heap.size w w' := by
  have HT := Lib.hid ht; have HR := Lib.hid hr; have HCL := Lib.hid hl
  clear ht hr hl
  have f1 : IntKind.i64.wrap (n : Int) = n := IntWalk.i64_in _ (by omega)
  obtain ⟨b, hb⟩ : ∃ b : Nat, n % 8 = b := ⟨_, rfl⟩
  have hb8 : b < 8 := by omega
  have f2 : ((n : Int)).tmod 8 = (b : Int) := by rw [Int.tmod_eq_emod_of_nonneg (by omega)]; omega
  have f3 : ((n : Int)) % 8 = (b : Int) := by omega
  clear hb
  go_enter Tryd.func4, Tryd.ntmps4
  go_wp2_with fail
  refine (awake _ HT.out).mono ?_
  rintro e w1 ⟨rfl, hb1⟩
  have HB1 := Lib.hid hb1; clear hb1
  go_wp2_with fail
  go_loopw [5, 6] (fun s5 s6 wr => ∃ i : Nat, i ≤ b ∧ s5 = .string (mk (sps (i + 1))) ∧ s6 = .int .i64 i ∧ w1 = wr) (fun _ s6 _ => b - (intOf s6).toNat)
  case atStart => exact ⟨0, by omega, rfl, rfl, rfl⟩
  case round =>
    obtain ⟨i, hi, rfl, rfl, rfl⟩ := hrel
    have hsz : (mk (sps (i + 1))).size = i + 1 := by rw [mk_size]; simp [sps]
    have HSN := Lib.hid (sps_snoc (i + 1))
    by_cases hlt : i < b
    · go_wp2_with fail
      go_roundw
      case rel => exact ⟨i + 1, by omega, by rw [HSN.out], by go_num, by first | rfl | trivial⟩
      case measure => simp [intOf]; omega
    · have e : i = b := by omega
      subst e
      clear hlt hi HSN
      go_wp2_with fail
      obtain ⟨bl, hbl⟩ : ∃ bl, i + 1 = bl := ⟨_, rfl⟩
      have hb1' : 1 ≤ bl := by omega
      have hb2' : bl ≤ 8 := by omega
      rw [hbl] at hsz
      rw [hbl]
      have HL0 : Hid (mk (sps bl) = lineOf bl (l.take 0)) := Lib.hid (by simp [lineOf, rowOf])
      clear hbl f1 f2 f3
      go_loopw [7, 8] (fun s7 s8 wr => ∃ j : Nat, j ≤ l.length ∧ s7 = .string (lineOf bl (l.take j)) ∧ s8 = .int .i64 j ∧ (∀ x ∈ l.take j, x.size ≤ 10) ∧ w1 = wr) (fun _ s8 _ => l.length - (intOf s8).toNat)
      case atStart => exact ⟨0, by omega, by rw [HL0.out], rfl, by simp, rfl⟩
      case round =>
        clear HL0
        obtain ⟨j, hj, rfl, rfl, hsh, rfl⟩ := hrel
        have HSH := Lib.hid hsh
        have hls : (lineOf bl (l.take j)).size ≤ 152 := by
          rw [line_size]
          have h1 := row_len bl (l.take j) hsh
          have h2 : (l.take j).length ≤ 8 := by rw [List.length_take]; omega
          have h3 : (l.take j).length * (10 + bl) ≤ 8 * 18 := Nat.mul_le_mul h2 (by omega)
          omega
        clear hsh
        by_cases hlt : j < l.length
        · obtain ⟨ad, x, rfl, hx, hc⟩ := cell_any HR.out hlt
          have hcell := hc _ HB1.out
          have HX := Lib.hid hx
          clear hc hx
          by_cases h10 : (10 : Int) < (x.size : Int)
          · go_wp2_with fail
            go_ret
            exact ⟨rfl, HB1.out⟩
          · have HLE : Hid (x.size ≤ 10) := Lib.hid (by omega)
            have htk : Hid (l.take (j + 1) = l.take j ++ [x]) := Lib.hid (by rw [List.take_add_one, HX.out]; rfl)
            have HLN : Hid ((lineOf bl (l.take j) ++ x) ++ mk (sps bl) = lineOf bl (l.take (j + 1))) := Lib.hid (by rw [htk.out]; exact line_snoc _ _ _)
            have hs1 : (lineOf bl (l.take j) ++ x).size ≤ 162 := by rw [ByteArray.size_append]; omega
            go_wp2_with fail
            go_roundw
            case rel =>
              refine ⟨j + 1, by omega, by rw [HLN.out], by go_num, ?_, by first | rfl | trivial⟩
              intro y hy
              rw [htk.out] at hy
              rcases List.mem_append.1 hy with hy | hy
              · exact HSH.out y hy
              · rw [List.mem_singleton.1 hy]; exact HLE.out
            case measure => simp [intOf]; omega
        · have e : j = l.length := by omega
          subst e
          have HS : Hid (Short l) := Lib.hid ⟨by omega, fun x hx => by have := HSH.out x (by rw [List.take_length]; exact hx); omega⟩
          rw [List.take_length] at hls
          rw [List.take_length]
          clear hlt hj HSH
          obtain ⟨K, hK⟩ := join_ev l HS.out
          have HK := Lib.hid hK; clear hK
          have hcs := joinS_cases l
          have HLS := Lib.hid hls
          rcases hcs with ⟨h1, h2⟩ | h1
          · have H2 := Lib.hid (split_line bl hb1' l (by omega) h2)
            rw [h1] at HK
            clear h1 h2
            go_wp2_with fail
            refine (whilomref20_Join.calls K A cap l (joinB l) true _ (Kd.C_below HR.out HB1.out) HCL.out HK.out).mono ?_
            rintro e w2 ⟨rfl, hb⟩
            have HB2 : Hid (Below w.heap.size w w2) := Lib.hid (HB1.out.trans (hb.mono HB1.out.size))
            clear hb
            go_wp2_with fail
            refine (split (lineOf bl l) _ (by have := HLS.out; omega) (HT.out.step HB2.out)).mono ?_
            rintro e w4 ⟨A4, c4, rfl, hc4, hC4, hb⟩
            rw [H2.out] at hc4 hC4
            rw [H2.out]
            have HB4 : Hid (Below w.heap.size w w4) := Lib.hid (HB2.out.trans (hb.mono HB2.out.size))
            have HC4 := Lib.hid hC4
            have HL4 := Lib.hid (Kd.C_below HR.out HB4.out)
            have HCC := Lib.hid hc4
            obtain ⟨K2, hK2⟩ := same_strs l (by have := HS.out.1; omega)
            have HK2 := Lib.hid hK2
            have hz200 : ¬ (200 : Int) < ((lineOf bl l).size : Int) := by have := HLS.out; omega
            clear hb hC4 hc4 hK2
            go_wp2_with fail
            refine (whilomref20_Same.calls K2 A4 c4 l A cap l true _ HC4.out HCC.out HL4.out HCL.out HK2.out).mono ?_
            rintro e w5 ⟨rfl, hd⟩
            have HB5 : Hid (Below w.heap.size w w5) := Lib.hid (HB4.out.trans (hd.below.mono HB4.out.size))
            clear hd
            go_wp2_with fail
            go_ret
            exact ⟨rfl, HB5.out⟩
          · rw [h1] at HK
            clear h1
            go_wp2_with fail
            refine (whilomref20_Join.calls K A cap l ⟨#[]⟩ false _ (Kd.C_below HR.out HB1.out) HCL.out HK.out).mono ?_
            rintro e w2 ⟨rfl, hb⟩
            have HB2 : Hid (Below w.heap.size w w2) := Lib.hid (HB1.out.trans (hb.mono HB1.out.size))
            clear hb
            go_wp2_with fail
            refine (split (lineOf bl l) _ (by have := HLS.out; omega) (HT.out.step HB2.out)).mono ?_
            rintro e w4 ⟨A4, c4, rfl, hc4, hC4, hb⟩
            have HB4 : Hid (Below w.heap.size w w4) := Lib.hid (HB2.out.trans (hb.mono HB2.out.size))
            clear hb hC4 hc4
            go_wp2_with fail
            go_ret
            exact ⟨rfl, HB4.out⟩

theorem walk_blanks (A : Option Addr) (len cap : Nat) (l : List ByteArray) (n : Int) (w : World) (hr : Kd.C Kd.string w A len l) (hl : len ≤ cap) (_ : ∀ z ∈ l, z.size ≤ maxLen) (hn : (Lit.int .u8 n).wf = true) (ht : Tab w) :
    Calls Tryd.prog 4 #[.slice A len cap, .int .u8 n] w fun e w' => e = .returned (.bool true) ∧ Below w.heap.size w w' := by
  by_cases hbig : 8 < len
  · exact walk_blanks_long A len cap n w ht hbig
  · have e0 := Kd.C_len hr
    subst e0
    have h1 := bounds_u8 hn
    obtain ⟨m, rfl⟩ := Int.eq_ofNat_of_zero_le h1.1
    exact walk_blanks_short A cap l m w hr hl (by omega) ht (by omega)
end Go.Proofs.YtddmlhcjbifkoaaDoor.Words
