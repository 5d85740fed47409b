/- A table made of what another tells stands where that stood. Plain facts. No conditions. -/
import Derived.Test.YtccfjjaljckinaaQMakeBM
import Derived.Test.YtccfjjaljckinaaQMi
namespace Go.Proofs.Ytccfjjaljckinaa.Tag
open Go.RowKit Go.Lib Go.Proofs.Ytccfjjaljckinaa.Mem Go.Proofs.Ytccfjjaljckinaa.IMap Go.Proofs.YtccfjjaljckinaaW.PrintWords Go.Proofs.Ytccfjjaljckinaa.PTagActs
set_option linter.unusedVariables false

theorem Duo.made {N m : Nat} {w w' : World} {O S U O' : Nat → Prop} {B D T : Nat} {t u : Tab} {r : RTab} {A : Option Addr} {c : Nat} {told : List Listed} (h : Duo N m w O S U B D t r A c told) (hb : Below w.heap.size w w')
    (ht : TabAt w' O' T u) (hO : ∀ k, O' k → w.heap.size ≤ k) (hr : Rel u r) : ∃ O2, Duo N m w' O2 S U T D u r A c told := by
  refine ⟨fun k => O' k ∧ k < w'.heap.size, ?_, h.ref.below hb, hr, Kd.F_below h.row hb, h.cap, fun k hk => ⟨Nat.le_trans h.n (hO k hk.1), hk.2, ?_, ?_, ?_⟩, fun k hk => ⟨Nat.lt_of_lt_of_le (h.u k hk).1 hb.size, (h.u k hk).2⟩, h.d, Nat.le_trans h.n hb.size, ?_, ?_, h.len, h.fits⟩
  · obtain ⟨M, v, hv, a, b, c⟩ := ht
    exact ⟨M, v, hv, ⟨a, hv.head.lt⟩, ⟨b, hv.map.lt⟩, fun k hk => ⟨c k hk, hv.ltV hk⟩⟩
  · have := h.ref.lt; have := hO k hk.1; omega
  · intro hs
    obtain ⟨_, _, _, _, _, _, _, _, _, h5⟩ := h.ref
    have := (h5 k hs).2; have := hO k hk.1; omega
  · intro hu
    have := (h.u k hu).1; have := hO k hk.1; omega
  · have e : (lastsOf u).length = (lastsOf t).length := by rw [← hr.lasts, ← h.rel.lasts]
    unfold lastsOf at e
    rw [List.length_map, List.length_map] at e
    rw [e]; exact h.few
  · rw [← hr.serial, h.rel.serial]; exact h.ser
theorem Rel.in64 {t : Tab} {r : RTab} (h : Rel t r) (g : Good t) : ∀ x ∈ r.l, In64O x.o := by
  intro x hx
  obtain ⟨i, s, hs, _, rfl⟩ := h.at_ hx
  have := g.slots s (List.mem_of_getElem? hs)
  exact ⟨this.time, this.key, this.id⟩
/-- Made again, at a place. -/
theorem remake {N m : Nat} {w w4 : World} {O S U : Nat → Prop} {B D : Nat} {t : Tab} {r : RTab} {A : Option Addr} {c : Nat} {told : List Listed} (h : Duo N m w4 O S U B D t r A c told) (iv : Inv t) (ft : Fits t) (hm : m ≤ 1000)
    {A1 A2 : Option Addr} {c1 c2 : Nat} {L : List Listed} (hb4 : Below w.heap.size w w4) (h1 : Kd.C (Kd.int .i64) w4 A1 (lastsOf t).length (lastsOf t)) (g1 : (lastsOf t).length ≤ c1) (h2 : Kd.C k34 w4 A2 L.length (sL L)) (g2 : L.length ≤ c2) (hso : Sorted L) (hmm : ∀ x, x ∈ L ↔ x ∈ liveL t.slots) :
    Calls Try.prog 16 #[.int .i64 t.cap, .int .i64 t.serial, .slice A1 (lastsOf t).length c1, .slice A2 L.length c2] w4 fun e w' => ∃ T O' u,
      e = .returned (.tuple #[.pointer (some ⟨T, 0, none⟩), .int .i64 0]) ∧ Duo N m w' O' S U T D u r A c told ∧ Below w.heap.size w w' := by
  have e : L = r.l := sorted_eq hso h.rel.sorted (fun x => (hmm x).trans (h.rel.mem x).symm)
  subst e
  have hn : t.slots.length ≤ 1000 := Nat.le_trans h.few hm
  have hl := h.rel.len
  have hlv := liveN_le t.slots
  obtain ⟨u, hu, hru⟩ := make_again h.rel h.tab.good iv h.ser.1 ft hn
  refine (makeAt h1 g1 h2 g2 (by unfold lastsOf; rw [List.length_map]; exact hn) (by omega) h.tab.good.serial (h.rel.in64 h.tab.good)).mono ?_
  rintro e w' ⟨hb, ⟨hn, _⟩ | ⟨T, O', t', ht', rfl, hT, hO⟩⟩
  · rw [hu] at hn; cases hn
  · rw [hu] at ht'
    injection ht' with ht'
    subst ht'
    obtain ⟨O2, hd⟩ := h.made hb hT hO hru
    exact ⟨T, O2, u, rfl, hd, hb4.trans (hb.mono hb4.size)⟩
end Go.Proofs.Ytccfjjaljckinaa.Tag
