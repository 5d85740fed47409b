/- Tables and their document, part Me of this seat's texts: plain facts and walks. No conditions. -/
import Derived.Test.YtccfjjaljckinaaRMd
import Derived.Deep.QuietTactic
import Derived.BigQuiet
import Derived.Deep.RegionWith
/- The document's table: one lives again. No conditions. -/
namespace Go.Proofs.Ytccfjjaljckinaa.Tag
open Go.RowKit Go.Lib Go.Proofs.Ytccfjjaljckinaa.Mem Go.Proofs.Ytccfjjaljckinaa.IMap Go.Proofs.YtccfjjaljckinaaW.PrintWords Go.Proofs.Ytccfjjaljckinaa.PTagActs

theorem irow_at {w : World} {A : Option Addr} {n : Nat} {l : List Int} (h : Kd.C (Kd.int .i64) w A n l) {i : Nat} {v : Int} (hv : l[i]? = some v) :
    ∃ ad, A = some ad ∧ w.cell? (ad.add i) = some (.int .i64 v) := by
  have hn := h.1
  have hlt := (List.getElem?_eq_some_iff.1 hv).1
  obtain ⟨ad, c, e, _, hK, hc⟩ := Kd.C_get h 0 (i : Int) (by omega) (by omega)
  rw [Int.toNat_natCast] at hK hc
  have hx : l.getD i 0 = v := by simp [List.getD, hv]
  rw [hx] at hK
  have hK' : c = [.int .i64 v] := hK
  subst hK'
  have := hc 0 _ rfl
  refine ⟨ad, e, ?_⟩
  have e1 : i * (Kd.int .i64).sz + 0 = i := by show i * 1 + 0 = i; omega
  rw [e1] at this
  exact this

end Go.Proofs.Ytccfjjaljckinaa.Tag
/- The document's table: one lives again: the way through. No conditions. -/
namespace Go.Proofs.Ytccfjjaljckinaa.Tag
open Go.RowKit Go.Lib Go.Proofs.Ytccfjjaljckinaa.Mem Go.Proofs.Ytccfjjaljckinaa.IMap Go.Proofs.YtccfjjaljckinaaW.PrintWords Go.Proofs.Ytccfjjaljckinaa.PTagActs

end Go.Proofs.Ytccfjjaljckinaa.Tag
/- The document's table: one lives again, whichever way. No conditions. -/
namespace Go.Proofs.Ytccfjjaljckinaa.Tag
open Go.RowKit Go.Lib Go.Proofs.Ytccfjjaljckinaa.Mem Go.Proofs.Ytccfjjaljckinaa.IMap Go.Proofs.YtccfjjaljckinaaW.PrintWords Go.Proofs.Ytccfjjaljckinaa.PTagActs

def rreviveE (r : RTab) (x : Listed) : Int :=
  if rmay r x.o.time = 0 then
    (if x.r.i < 0 then 13 else match r.lasts[x.r.i.toNat]? with
      | none => 13
      | some v => if r.l.any (fun y => y.r.i == x.r.i) = true ∨ x.r.g < 1 ∨ v < x.r.g then 13
        else if x.o.id < 0 ∨ r.serial ≤ x.o.id ∨ r.l.any (fun y => y.o.id == x.o.id) = true ∨ (x.o.ins = false ∧ x.o.key ≠ 0) then 2 else 0)
  else rmay r x.o.time
def rreviveT (r : RTab) (x : Listed) : RTab := if rreviveE r x = 0 then { r with l := addL r.l x } else r

end Go.Proofs.Ytccfjjaljckinaa.Tag
