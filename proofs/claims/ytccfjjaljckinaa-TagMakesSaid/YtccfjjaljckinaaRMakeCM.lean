/- A table made of what another tells stands where that stood. Plain facts. No conditions. -/
import Derived.Test.YtccfjjaljckinaaRMakeBM
import Derived.Test.YtccfjjaljckinaaRMh
import Derived.Deep.QuietTactic
import Derived.BigQuiet
namespace Go.Proofs.Ytccfjjaljckinaa.Tag
open Go.RowKit Go.Lib Go.Proofs.Ytccfjjaljckinaa.Mem Go.Proofs.Ytccfjjaljckinaa.IMap Go.Proofs.YtccfjjaljckinaaW.PrintWords Go.Proofs.Ytccfjjaljckinaa.PTagActs
set_option linter.unusedVariables false

theorem Duo.made {N m : Nat} {w w' : World} {O S U O' : Nat → Prop} {B D T : Nat} {t u : Tab} {r : RTab} {A : Option Addr} {c : Nat} {told : List Listed} (h : Duo N m w O S U B D t r A c told) (hb : Below w.heap.size w w')
    (ht : TabAt w' O' T u) (hO : ∀ k, O' k → w.heap.size ≤ k) (hr : Rel u r) : ∃ O2, Duo N m w' O2 S U T D u r A c told := by
  refine ⟨fun k => O' k ∧ k < w'.heap.size, ?_, h.ref.below hb, hr, Kd.F_below h.row hb, h.cap, fun k hk => ⟨Nat.le_trans h.n (hO k hk.1), hk.2, ?_, ?_, ?_⟩, fun k hk => ⟨Nat.lt_of_lt_of_le (h.u k hk).1 hb.size, (h.u k hk).2⟩, h.d, Nat.le_trans h.n hb.size, ?_, ?_, h.len, h.fits⟩
  · obtain ⟨M, v, hv, a, b, c⟩ := ht
    exact ⟨M, v, hv, ⟨a, hv.head.lt⟩, ⟨b, hv.map.lt⟩, fun k hk => ⟨c k hk, hv.ltV hk⟩⟩
  · have := h.ref.lt; have := hO k hk.1; omega
  · intro hs
    obtain ⟨_, _, _, _, _, _, _, _, _, h5⟩ := h.ref
    have := (h5 k hs).2; have := hO k hk.1; omega
  · intro hu
    have := (h.u k hu).1; have := hO k hk.1; omega
  · have e : (lastsOf u).length = (lastsOf t).length := by rw [← hr.lasts, ← h.rel.lasts]
    unfold lastsOf at e
    rw [List.length_map, List.length_map] at e
    rw [e]; exact h.few
  · rw [← hr.serial, h.rel.serial]; exact h.ser
end Go.Proofs.Ytccfjjaljckinaa.Tag
