/- No handle twice: the law, walked. -/
import Derived.Test.YtccfjjaljckinaaTagS
import Derived.Test.YtccfjjaljckinaaPTagOncex1
import Derived.LoopTactic
namespace Go.Proofs.Ytccfjjaljckinaa.Tag
open Go.RowKit Go.Lib Go.Shelf Go.Proofs.Ytccfjjaljckinaa.Mem Go.Proofs.Ytccfjjaljckinaa.IMap Go.Proofs.YtccfjjaljckinaaW.PrintWords

def restI (a n : Int) : Int := Int.tmod (wrap64 (Int.tmod a n + n)) n
theorem rest_in (a n : Int) (h0 : 0 < n) (h1 : n ≤ 1000) : 0 ≤ restI a n ∧ restI a n < n := by
  unfold restI
  have a1 : -n < Int.tmod a n := Int.lt_tmod_of_pos a h0
  have a2 : Int.tmod a n < n := Int.tmod_lt_of_pos a h0
  have e : wrap64 (Int.tmod a n + n) = Int.tmod a n + n := by unfold wrap64; omega
  rw [e]
  exact ⟨Int.tmod_nonneg _ (by omega), Int.tmod_lt_of_pos _ h0⟩
theorem rest (a n : Int) (h0 : 0 < n) (w : World) : Calls Try.prog 10 #[.int .i64 a, .int .i64 n] w fun e w' => e = .returned (.int .i64 (restI a n)) ∧ ∃ k, w' = w.drewN k := by
  refine (PTagOnce.whilomref01_Rest.calls a n (restI a n) w (by unfold PTagOnce.whilomref01_Rest.f; rw [if_neg (by omega)]; rfl)).mono ?_
  rintro e w' ⟨rfl, h⟩
  exact ⟨rfl, h.out⟩

/-- Lists of operations with their handles, as a row. -/
def encL (l : Listed) : List Value := [.int .i64 l.r.i, .int .i64 l.r.g, .int .i64 l.o.time, .bool l.o.ins, .int .i64 l.o.key, .int .i64 l.o.id]
def cellsL (l : List Listed) : List Value := l.flatMap encL
theorem encL_len (s : Listed) : (encL s).length = 6 := rfl
theorem cellsL_at : ∀ (l : List Listed) (i : Nat) (s : Listed) (j : Nat) (u : Value), l[i]? = some s → (encL s)[j]? = some u → (cellsL l)[i * 6 + j]? = some u
  | [], i, s, j, u, h, _ => by simp at h
  | x :: l, 0, s, j, u, h, hj => by
    simp at h; subst h
    unfold cellsL
    rw [List.flatMap_cons, Nat.zero_mul, Nat.zero_add, List.getElem?_append_left (List.getElem?_eq_some_iff.1 hj).1]; exact hj
  | x :: l, i + 1, s, j, u, h, hj => by
    have ih := cellsL_at l i s j u (by simpa using h) hj
    unfold cellsL at ih ⊢
    rw [List.flatMap_cons, List.getElem?_append_right (by rw [encL_len]; omega), encL_len]
    have e : (i + 1) * 6 + j - 6 = i * 6 + j := by omega
    rw [e]; exact ih
def TRow (w : World) (v : Value) (l : List Listed) : Prop := w.ownsRow 0 34 6 v l.length (cellsL l)
theorem TRow.cells {w : World} {v : Value} {l : List Listed} (h : TRow w v l) {i : Nat} {s : Listed} (hi : l[i]? = some s) :
    ∃ R cap, v = .slice (some ⟨R, 0, none⟩) l.length cap ∧ R < w.heap.size ∧ ∀ j u, (encL s)[j]? = some u → w.cell? ⟨R, i * 6 + j, none⟩ = some u := by
  have hlt := (List.getElem?_eq_some_iff.1 hi).1
  obtain ⟨hlen, ⟨rfl, h0⟩ | ⟨R, cap, cur, rfl, _, hb, hle, hm, hsz, htake⟩⟩ := h
  · omega
  · refine ⟨R, cap, rfl, lt_of_block hb, fun j u hj => ?_⟩
    have hc := cellsL_at l i s j u hi hj
    rw [← htake, List.getElem?_take] at hc
    split at hc
    · simp [World.cell?, hb]
      simpa using hc
    · cases hc
theorem TRow.len {w : World} {v : Value} {l : List Listed} (h : TRow w v l) : ∃ A cap, v = .slice A l.length cap := by
  rcases h.2 with ⟨rfl, h0⟩ | ⟨R, cap, cur, rfl, _⟩
  · exact ⟨none, 0, by rw [h0]⟩
  · exact ⟨_, _, rfl⟩
theorem TRow.keep {S : Nat → Prop} {w w' : World} {v : Value} {l : List Listed} (h : TRow w v l) (hc : Chg S w w') (hs : ∀ k, v.ownBlock = some k → ¬ S k) : TRow w' v l := row_chg h hc hs
theorem TRow.below {w w' : World} {v : Value} {l : List Listed} (h : TRow w v l) (hb : Below w.heap.size w w') : TRow w' v l := row_chg h (Chg.of_below (S := fun _ => False) hb) (fun _ _ h => h)
theorem info34 : (Try.prog.info? 34).map (fun i => (i.zero, i.size, i.bytes)) = some (some (aggL listed0), 6, 48) := by kernel_rfl

structure Act where
  kind : Int
  place : Int
  told : Bool
  x : Listed
def encA (a : Act) : List Value := [.int .i64 a.kind, .int .i64 a.place, .bool a.told, .int .i64 a.x.r.i, .int .i64 a.x.r.g, .int .i64 a.x.o.time, .bool a.x.o.ins, .int .i64 a.x.o.key, .int .i64 a.x.o.id]
/-- Acts, as they came in. -/
def Acts (w : World) (A : Option Addr) (l : List Act) : Prop := ∀ (i : Nat) (a : Act), l[i]? = some a → ∃ ad : Addr, A = some ad ∧ w.cell? (ad.add (i * 9)) = some (.int .i64 a.kind) ∧
  (∀ j u, (encA a)[j]? = some u → w.cell? ⟨(ad.add (i * 9)).block, (ad.add (i * 9)).off + j, none⟩ = some u) ∧ (ad.add (i * 9)).block < w.heap.size
def FitsA (l : List Act) : Prop := ∀ a ∈ l, In64 a.kind ∧ In64 a.place ∧ In64 a.x.r.i ∧ In64 a.x.r.g ∧ In64O a.x.o
theorem cell_of {w w' : World} {p : Addr} {v : Value} {N : Nat} (h : w.cell? p = some v) (hb : Below N w w') (hp : p.block < N) : w'.cell? p = some v := (hb.cell hp).trans h
theorem Acts.below {w w' : World} {A : Option Addr} {l : List Act} (h : Acts w A l) (hb : Below w.heap.size w w') : Acts w' A l := by
  intro i a ha
  obtain ⟨ad, e, h0, h1, h2⟩ := h i a ha
  exact ⟨ad, e, cell_of h0 hb h2, fun j u hu => cell_of (h1 j u hu) hb h2, Nat.lt_of_lt_of_le h2 hb.size⟩

set_option maxRecDepth 100000 in
set_option maxHeartbeats 1000000 in
theorem once_long (A : Option Addr) (len cap : Nat) (w : World) (hbig : 50 < len) :
    Calls Try.prog 3 #[.slice A len cap] w fun e w' => e = .returned (.bool true) ∧ Below w.heap.size w w' := by
  go_enter Try.func3, Try.ntmps3
  go_wp2_with fail
  refine (awake _).mono ?_
  rintro e w1 ⟨rfl, hb1⟩
  have HB1 := Lib.hid hb1; clear hb1
  go_wp2_with fail
  refine (awake _).mono ?_
  rintro e w2 ⟨rfl, hb2⟩
  have HB2 := Lib.hid hb2; clear hb2
  go_wp2_with fail
  go_ret
  exact ⟨rfl, HB1.out.trans (HB2.out.mono HB1.out.size)⟩
end Go.Proofs.Ytccfjjaljckinaa.Tag
