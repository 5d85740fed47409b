/- Tables and their document, part Mh of this seat's texts: plain facts and walks. No conditions. -/
import Derived.Test.YtccfjjaljckinaaRMg
import Derived.Test.YtccfjjaljckinaaRRg
import Derived.Deep.QuietTactic
import Derived.BigQuiet
/- A table beside the document's, and what was ever told. No conditions. -/
namespace Go.Proofs.Ytccfjjaljckinaa.Tag
open Go.RowKit Go.Lib Go.Proofs.Ytccfjjaljckinaa.Mem Go.Proofs.Ytccfjjaljckinaa.IMap Go.Proofs.YtccfjjaljckinaaW.PrintWords Go.Proofs.Ytccfjjaljckinaa.PTagActs

/-- The table at B (its blocks O), the document's at D (its rows' blocks S), what was told (blocks U); all from block N on; m acts at the most. -/
structure Duo (N m : Nat) (w : World) (O S U : Nat → Prop) (B D : Nat) (t : Tab) (r : RTab) (A : Option Addr) (c : Nat) (told : List Listed) : Prop where
  tab : TabAt w O B t
  ref : RefAt w S D r
  rel : Rel t r
  row : Kd.F k34 w U A told.length (sL told)
  cap : told.length ≤ c
  o : ∀ k, O k → N ≤ k ∧ k < w.heap.size ∧ k ≠ D ∧ ¬ S k ∧ ¬ U k
  u : ∀ k, U k → k < w.heap.size ∧ k ≠ D
  d : N ≤ D
  n : N ≤ w.heap.size
  few : t.slots.length ≤ m
  ser : 0 ≤ t.serial ∧ t.serial ≤ m
  len : told.length ≤ m
  fits : ∀ l ∈ told, In64O l.o

section
variable {N m : Nat} {w w' : World} {O S U : Nat → Prop} {B D : Nat} {t : Tab} {r : RTab} {A : Option Addr} {c : Nat} {told : List Listed}
theorem Duo.below (h : Duo N m w O S U B D t r A c told) (hb : Below w.heap.size w w') : Duo N m w' O S U B D t r A c told :=
  ⟨h.tab.below hb, h.ref.below hb, h.rel, Kd.F_below h.row hb, h.cap, fun k hk => ⟨(h.o k hk).1, Nat.lt_of_lt_of_le (h.o k hk).2.1 hb.size, (h.o k hk).2.2⟩, fun k hk => ⟨Nat.lt_of_lt_of_le (h.u k hk).1 hb.size, (h.u k hk).2⟩, h.d, Nat.le_trans h.n hb.size, h.few, h.ser, h.len, h.fits⟩
theorem Duo.more (h : Duo N m w O S U B D t r A c told) {m' : Nat} (hm : m ≤ m') : Duo N m' w O S U B D t r A c told :=
  ⟨h.tab, h.ref, h.rel, h.row, h.cap, h.o, h.u, h.d, h.n, by have := h.few; omega, ⟨h.ser.1, by have := h.ser.2; omega⟩, by have := h.len; omega, h.fits⟩
end

end Go.Proofs.Ytccfjjaljckinaa.Tag
/- One told more: a region that appends twice. No conditions. -/
namespace Go.Proofs.Ytccfjjaljckinaa.Tag
open Go.RowKit Go.Lib Go.Shelf Go.Proofs.Ytccfjjaljckinaa.Mem Go.Proofs.Ytccfjjaljckinaa.IMap Go.Proofs.Ytccfjjaljckinaa.Rg Go.Proofs.YtccfjjaljckinaaW.PrintWords Go.Proofs.YtccfjjaljckinaaW.PrintLast Go.Proofs.YtccfjjaljckinaaW.PrintMore Go.Proofs.Ytccfjjaljckinaa.PTagActs
set_option linter.unusedVariables false
set_option linter.unusedSimpArgs false

abbrev RowT (w0 w' : World) (v : Value) (l : List Listed) : Prop := Kd.R k34 34 w' w0.heap.size (fun k => w0.heap.size ≤ k) v (sL l)
structure DoF (w0 : World) (tv : Value) (told : List Listed) (x : Listed) (d : Nat → Bool) (vs : List Value) (w' : World) : Prop where
  bel : Below w0.heap.size w0 w'
  shape : ∃ u0 u1 u2 u3 u4 u5 u6, vs = [u0, u1, u2, u3, u4, u5, u6]
  v0 : d 0 = true → d 2 = false → RowT w0 w' (vs.getD 0 undef) []
  v1 : d 1 = true → vs.getD 1 undef = tv
  v2 : d 2 = true → d 5 = false → RowT w0 w' (vs.getD 2 undef) told
  v3 : d 3 = true → vs.getD 3 undef = aggL x
  v4 : d 4 = true → ∃ X, vs.getD 4 undef = .slice (some ⟨X, 0, none⟩) 1 1 ∧ Blk w' X (encL x).toArray 34 ∧ (d 0 = true → d 2 = false → (vs.getD 0 undef).ownBlock ≠ some X) ∧ (d 2 = true → d 5 = false → (vs.getD 2 undef).ownBlock ≠ some X)
  v5 : d 5 = true → RowT w0 w' (vs.getD 5 undef) (told ++ [x])
  v6 : d 6 = true → vs.getD 6 undef = vs.getD 5 undef
  w6 : d 6 = false → vs.getD 6 undef = tv
  c2 : d 2 = true → d 0 = true ∧ d 1 = true
  c4 : d 4 = true → d 3 = true
  c5 : d 5 = true → d 2 = true ∧ d 4 = true
  c6 : d 6 = true → d 5 = true ∧ d 1 = true

end Go.Proofs.Ytccfjjaljckinaa.Tag
/- One act on both tables: k1. No conditions. -/
namespace Go.Proofs.Ytccfjjaljckinaa.Tag
open Go.RowKit Go.Lib Go.Shelf Go.Proofs.Ytccfjjaljckinaa.Mem Go.Proofs.Ytccfjjaljckinaa.IMap Go.Proofs.YtccfjjaljckinaaW.PrintWords Go.Proofs.YtccfjjaljckinaaW.PrintLast Go.Proofs.YtccfjjaljckinaaW.PrintMore Go.Proofs.Ytccfjjaljckinaa.PTagActs
set_option linter.unusedVariables false
end Go.Proofs.Ytccfjjaljckinaa.Tag
/- One act on both tables: k0e. No conditions. -/
namespace Go.Proofs.Ytccfjjaljckinaa.Tag
open Go.RowKit Go.Lib Go.Shelf Go.Proofs.Ytccfjjaljckinaa.Mem Go.Proofs.Ytccfjjaljckinaa.IMap Go.Proofs.YtccfjjaljckinaaW.PrintWords Go.Proofs.YtccfjjaljckinaaW.PrintLast Go.Proofs.YtccfjjaljckinaaW.PrintMore Go.Proofs.Ytccfjjaljckinaa.PTagActs
set_option linter.unusedVariables false
end Go.Proofs.Ytccfjjaljckinaa.Tag
