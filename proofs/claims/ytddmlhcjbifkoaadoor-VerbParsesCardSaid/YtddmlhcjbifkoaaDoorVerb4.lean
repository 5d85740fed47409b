/- The table of commands in memory; the command of a word. No conditions. -/
import Derived.Test.YtddmlhcjbifkoaaDoorVerb2
import Derived.Test.YtddmlhcjbifkoaaDoorMem
import Derived.Lib.Hide
import Derived.LoopTactic
import Derived.IntWalk
import Derived.Laws.Rows
namespace Go.Proofs.YtddmlhcjbifkoaaDoor.Verb
open Go.Lib Go.RowKit Go.Proofs.YtddmlhcjbifkoaaDoor.Mem Go.Proofs.YtddmlhcjbifkoaaDoorW.PrintWords Go.Proofs.YtddmlhcjbifkoaaDoor.Item
def lows : List ByteArray := [⟨#[]⟩, ⟨#[116, 110]⟩, ⟨#[116]⟩, ⟨#[104]⟩, ⟨#[104, 116]⟩, ⟨#[]⟩, ⟨#[]⟩, ⟨#[]⟩, ⟨#[]⟩, ⟨#[]⟩, ⟨#[116]⟩, ⟨#[116]⟩, ⟨#[116, 110]⟩, ⟨#[116, 104]⟩, ⟨#[]⟩, ⟨#[104]⟩, ⟨#[104]⟩, ⟨#[]⟩]
def lowAt (i : Nat) : ByteArray := lows.getD i ByteArray.empty
def lowF (c : UInt8) : Fld := if c = 116 then .T else if c = 110 then .N else .H
theorem low_is : ∀ i, i < 18 → (lowAt i).data.toList.map lowF = wantsF i := by decide +kernel
theorem low_chars : ∀ i, i < 18 → ∀ c ∈ (lowAt i).data.toList, c = 116 ∨ c = 110 ∨ c = 104 := by decide +kernel
/-- The array's cells. -/
def tabC : Array Value := ((List.range 18).flatMap fun i => [Value.string (nameAt i), Value.string (lowAt i)]).toArray
theorem tabC_at (i : Nat) (hi : i < 18) : tabC[2 * i]? = some (.string (nameAt i)) ∧ tabC[2 * i + 1]? = some (.string (lowAt i)) := by
  have h : i = 0 ∨ i = 1 ∨ i = 2 ∨ i = 3 ∨ i = 4 ∨ i = 5 ∨ i = 6 ∨ i = 7 ∨ i = 8 ∨ i = 9 ∨ i = 10 ∨ i = 11 ∨ i = 12 ∨ i = 13 ∨ i = 14 ∨ i = 15 ∨ i = 16 ∨ i = 17 := by omega
  rcases h with rfl | rfl | rfl | rfl | rfl | rfl | rfl | rfl | rfl | rfl | rfl | rfl | rfl | rfl | rfl | rfl | rfl | rfl <;> exact ⟨rfl, rfl⟩
theorem tabC_size : tabC.size = 36 := rfl
/-- The table lies where the program's variable lies. -/
def Tbl (w : World) : Prop := ∃ t fr, w.heap[0]? = some (.cells tabC t fr)
theorem Tbl.step {w w' : World} (h : Tbl w) (hb : Below w.heap.size w w') : Tbl w' := by
  obtain ⟨t, fr, h⟩ := h
  exact ⟨t, fr, (hb.block 0 (Array.getElem?_eq_some_iff.1 h).1).trans h⟩
theorem Tbl.name {w : World} (h : Tbl w) {i : Nat} (hi : i < 18) : w.cell? ⟨0, 2 * i, none⟩ = some (.string (nameAt i)) := by
  obtain ⟨t, fr, h⟩ := h
  rw [cell_of_row w 0 (2 * i) tabC t fr h]; exact (tabC_at i hi).1
theorem Tbl.wants {w : World} (h : Tbl w) {i : Nat} (hi : i < 18) : w.cell? ⟨0, 2 * i + 1, none⟩ = some (.string (lowAt i)) := by
  obtain ⟨t, fr, h⟩ := h
  rw [cell_of_row w 0 (2 * i + 1) tabC t fr h]; exact (tabC_at i hi).2
/-- The command of a word. -/
def findC (w : ByteArray) (i : Nat) : Option Nat := (List.range' i (18 - i)).find? (fun j => decide (0 < j) && decide (nameAt j = w))
def findI (o : Option Nat) : Int := match o with | some j => (j : Int) | none => -1
theorem findC_step (w : ByteArray) (i : Nat) (hi : i < 18) : findC w i = if 0 < i ∧ nameAt i = w then some i else findC w (i + 1) := by
  unfold findC
  obtain ⟨d, hd⟩ : ∃ d, 18 - i = d + 1 := ⟨17 - i, by omega⟩
  have h2 : 18 - (i + 1) = d := by omega
  rw [hd, h2, List.range'_succ, List.find?_cons]
  by_cases h1 : 0 < i
  · by_cases h3 : nameAt i = w
    · rw [if_pos ⟨h1, h3⟩]; simp [h1, h3]
    · rw [if_neg (fun e => h3 e.2)]; simp [h3]
  · rw [if_neg (fun e => h1 e.1)]; simp [h1]
set_option maxRecDepth 100000 in
theorem index_tab (k : Nat) (hk : k < 18) (w : World) : (Instr.index 85 (.agg tabC) (.int .i64 k)).run Tryd.prog w = .ok (.agg #[.string (nameAt k), .string (lowAt k)]) w := by
  have h : k = 0 ∨ k = 1 ∨ k = 2 ∨ k = 3 ∨ k = 4 ∨ k = 5 ∨ k = 6 ∨ k = 7 ∨ k = 8 ∨ k = 9 ∨ k = 10 ∨ k = 11 ∨ k = 12 ∨ k = 13 ∨ k = 14 ∨ k = 15 ∨ k = 16 ∨ k = 17 := by omega
  have hu84 := Tryd.underlying84
  have hu85 := Tryd.underlying85
  rcases h with rfl | rfl | rfl | rfl | rfl | rfl | rfl | rfl | rfl | rfl | rfl | rfl | rfl | rfl | rfl | rfl | rfl | rfl <;> rfl
set_option maxRecDepth 100000 in
set_option maxHeartbeats 1000000 in
theorem find_ (x : ByteArray) (w : World) (h : Tbl w) : Calls Tryd.prog 57 #[.string x] w fun e w' => e = .returned (.int .i64 (findI (findC x 0))) ∧ Below w.heap.size w w' := by
  obtain ⟨T, hT⟩ : ∃ T, T = tabC := ⟨_, rfl⟩
  obtain ⟨tt, fr, h⟩ := h
  have HT : Hid (w.heap[0]? = some (.cells T tt fr)) := Lib.hid (by rw [hT]; exact h)
  have HS : Hid ((Tryd.prog.info? 85).map (·.size) = some T.size) := Lib.hid (by rw [hT, tabC_size]; kernel_rfl)
  have HI : Hid (∀ (k : Nat), k < 18 → ∀ w, (Instr.index 85 (.agg T) (.int .i64 k)).run Tryd.prog w = .ok (.agg #[.string (nameAt k), .string (lowAt k)]) w) := Lib.hid (by rw [hT]; exact index_tab)
  have HB : Hid (Below w.heap.size w w) := Lib.hid (Below.refl _ _)
  have hu84 := Tryd.underlying84
  clear h hT
  go_enter Tryd.func57, Tryd.ntmps57
  go_wp2_with (refine gate_dst (N := 5) rfl ?_; refine wpList_load_row rfl 85 _ rfl 0 rfl tt T fr _ HT.out Tryd.underlying85 rfl HS.out ?_)
  go_loopw [6] (fun i wr => ∃ k : Nat, k ≤ 18 ∧ i = .int .i64 k ∧ findC x 0 = findC x k ∧ Below w.heap.size w wr) (fun i _ => 18 - (intOf i).toNat)
  case atStart => exact ⟨0, Nat.zero_le _, rfl, rfl, HB.out⟩
  case round =>
    obtain ⟨k, hk, rfl, hf, hb⟩ := hrel
    have HF := Lib.hid hf
    have HB' := Lib.hid hb
    clear hf hb HB
    by_cases hlt : k < 18
    · have hkn : (k : Int) < 18 := by omega
      have hk0 : (0 : Int) ≤ k := by omega
      have hkt : ((k : Int)).toNat = k := by omega
      have hix := HI.out k hlt wr
      have HB2 : Hid (Below w.heap.size w (wr.alloc (Obj.cells #[.string (nameAt k), .string (lowAt k)] 84))) := Lib.hid (HB'.out.alloc HB'.out.size _)
      by_cases hp : 0 < k
      · have t0 : decide ((0 : Int) < k) = true := decide_eq_true (by omega)
        have t1 : decide (0 < k) = true := decide_eq_true hp
        by_cases hx : nameAt k = x
        · have t2 : ((nameAt k).toList == x.toList) = true := beq_iff_eq.2 (toList_inj.2 hx)
          have HR : Hid (findC x 0 = some k) := Lib.hid (by rw [HF.out, findC_step _ _ hlt, if_pos ⟨hp, hx⟩])
          generalize nameAt k = nk at *
          clear hp hx
          go_wp2_with fail
          go_ret
          exact ⟨by rw [HR.out]; rfl, HB2.out⟩
        · have t2 : ((nameAt k).toList == x.toList) = false := beq_eq_false_iff_ne.2 (fun e => hx (toList_inj.1 e))
          have HR : Hid (findC x 0 = findC x (k + 1)) := Lib.hid (by rw [HF.out, findC_step _ _ hlt, if_neg (fun e => hx e.2)])
          generalize nameAt k = nk at *
          clear hp hx
          go_wp2_with fail
          go_roundw
          case rel => exact ⟨k + 1, by omega, by go_num, HR.out, HB2.out⟩
          case measure => simp [intOf]; omega
      · have t0 : decide ((0 : Int) < k) = false := decide_eq_false (by omega)
        have t1 : decide (0 < k) = false := decide_eq_false hp
        have HR : Hid (findC x 0 = findC x (k + 1)) := Lib.hid (by rw [HF.out, findC_step _ _ hlt, if_neg (fun e => hp e.1)])
        generalize nameAt k = nk at *
        clear hp
        go_wp2_with fail
        go_roundw
        case rel => exact ⟨k + 1, by omega, by go_num, HR.out, HB2.out⟩
        case measure => simp [intOf]; omega
    · obtain rfl : k = 18 := by omega
      have HR : Hid (findC x 0 = none) := Lib.hid HF.out
      go_wp2_with fail
      go_ret
      exact ⟨by rw [HR.out]; rfl, HB'.out⟩
end Go.Proofs.YtddmlhcjbifkoaaDoor.Verb
