-- PRINTED BY print.sh 35421559b90ae4d0a3588c463048766b98c2df88dd9212a6774a882060cdf62d: not written by this session
import Derived.Test.YtddmlhcjbifkoaaDoorProg
import Derived.Below
import Derived.Deep.Draws
import Derived.Deep.AppendLies
import Derived.Maps.AppendAt
import Derived.OwnWalk
import Derived.Laws.BytesArg
import Derived.Laws.MakeOwn
import Derived.Laws.OwnMore
import Derived.Deep.OwnRows
import Derived.Tactics
import Derived.Lib.ConvBytes
import Derived.Laws.Slices
import Derived.WalkKit
import Derived.KernelRfl
import Derived.RowKit3
import Derived.Deep.LoopGhost
import Derived.Deep.QuietTactic
import Derived.BigQuiet
import Derived.WideLaws
import Derived.Deep.DeepCutAuto
import Derived.Deep.CutBlock
import Derived.Deep.RegionHeld3
import Derived.Laws.Rows
import Derived.Lib.AppendStr
import Derived.ArgAppend
import Derived.Laws.IdiomCopy
import Derived.OrdersHeld
import Derived.Laws.BitsLemmas
import Derived.RowKit
import Derived.Test.YtddmlhcjbifkoaaDoorWWords
import Derived.Test.YtddmlhcjbifkoaaDoorWLast
import Derived.Test.YtddmlhcjbifkoaaDoorWTab
import Derived.Test.YtddmlhcjbifkoaaDoorWFour
import Derived.Test.YtddmlhcjbifkoaaDoorWQPut
import Derived.Test.YtddmlhcjbifkoaaDoorWApart
import Derived.Test.YtddmlhcjbifkoaaDoorWArr
import Derived.Test.YtddmlhcjbifkoaaDoorWZeros
import Derived.Test.YtddmlhcjbifkoaaDoorWFoot
import Derived.Test.YtddmlhcjbifkoaaDoorWKept
import Derived.Test.YtddmlhcjbifkoaaDoorWShare
import Derived.Test.YtddmlhcjbifkoaaDoorWN
import Derived.Test.YtddmlhcjbifkoaaDoorWFootNe
import Derived.Test.YtddmlhcjbifkoaaDoorWAt
import Derived.Test.YtddmlhcjbifkoaaDoorWEqStruct
import Derived.Test.YtddmlhcjbifkoaaDoorWRepsOne
import Derived.Test.YtddmlhcjbifkoaaDoorWInv
import Derived.Test.YtddmlhcjbifkoaaDoorWInvWords
import Derived.Test.YtddmlhcjbifkoaaDoorWGuard
import Derived.Test.YtddmlhcjbifkoaaDoorWNEv
import Derived.Test.YtddmlhcjbifkoaaDoorWMore
namespace Go.Proofs.YtddmlhcjbifkoaaDoor.PWordsJoins
open Go.RowKit Go.Proofs.YtddmlhcjbifkoaaDoorW.PrintWords Go.Proofs.YtddmlhcjbifkoaaDoorW.PrintLast Go.Proofs.YtddmlhcjbifkoaaDoorW.PrintMore
attribute [local go_sem] max2_int min2_int max_two min_two max_three min_three max_four min_four   -- for this text's walks alone
set_option linter.unusedVariables false
set_option linter.unusedSimpArgs false



def errW : Option Int → Value
  | none => .nilIface
  | some c => .iface 0 (.int .i64 c)
theorem errW_none : errW none = .nilIface := rfl
theorem errW_some (c : Int) : errW (some c) = .iface 0 (.int .i64 c) := rfl

theorem info9 : (Tryd.prog.info? 9).map (fun i => (i.zero, i.size, i.bytes)) = some (some (.string ⟨#[]⟩), 1, 16) := by kernel_rfl
-- the values' own types
/-! #### struct type 141 -/
structure S141 where
  f0 : Int
  f1 : Int
  f2 : Int
def z141 : S141 := ⟨(0 : Int), (0 : Int), (0 : Int)⟩
def k141 : Kd S141 := Kd.iso (Kd.pair (Kd.int .u16) (Kd.pair (Kd.int .u16) (Kd.int .u16))) (fun x : S141 => (x.f0, x.f1, x.f2))
theorem k141_open {w : World} {x : S141} {cs : List Value} (h : k141.K w x cs) : cs = [.int .u16 x.f0, .int .u16 x.f1, .int .u16 x.f2] := by
  obtain ⟨_, _, rfl, rfl, ⟨_, _, rfl, rfl, rfl⟩⟩ := h
  exact rfl
theorem k141_openM {w : World} {base : Nat} {ok : Nat → Prop} {x : S141} {cs : List Value} (h : k141.M w base ok x cs) : cs = [.int .u16 x.f0, .int .u16 x.f1, .int .u16 x.f2] := by
  obtain ⟨_, _, rfl, rfl, ⟨_, _, rfl, rfl, rfl⟩⟩ := h
  exact rfl
theorem k141_mk (w : World) (x : S141)  : k141.K w x [.int .u16 x.f0, .int .u16 x.f1, .int .u16 x.f2] := ⟨[.int .u16 x.f0], [.int .u16 x.f1, .int .u16 x.f2], rfl, rfl, ⟨[.int .u16 x.f1], [.int .u16 x.f2], rfl, rfl, rfl⟩⟩
theorem k141_mkM (w : World) (base : Nat) (ok : Nat → Prop) (x : S141)  : k141.M w base ok x [.int .u16 x.f0, .int .u16 x.f1, .int .u16 x.f2] := ⟨[.int .u16 x.f0], [.int .u16 x.f1, .int .u16 x.f2], rfl, rfl, ⟨[.int .u16 x.f1], [.int .u16 x.f2], rfl, rfl, rfl⟩⟩
def rd_T141 (xs : List S141) (i : Int) : S141 := xs.getD i.toNat z141
theorem at_T141 {w : World} {A : Option Addr} {n : Nat} {xs : List S141} (h : Kd.C k141 w A n xs) (i : Int) (h0 : 0 ≤ i) (h1 : i < n) : ∃ ad , A = some ad ∧ w.cell? (ad.add (i.toNat * 3)) = some (.int .u16 (rd_T141 xs i).f0) ∧ w.cell? ⟨(ad.add (i.toNat * 3)).block, (ad.add (i.toNat * 3)).off + 1, none⟩ = some (.int .u16 (rd_T141 xs i).f1) ∧ w.cell? ⟨(ad.add (i.toNat * 3)).block, (ad.add (i.toNat * 3)).off + 2, none⟩ = some (.int .u16 (rd_T141 xs i).f2) := by
  obtain ⟨ad, c, e, _, hK, hc0⟩ := Kd.C_get h z141 i h0 h1
  have hc : ∀ j u, c[j]? = some u → w.cell? (ad.add (i.toNat * 3 + j)) = some u := hc0
  obtain rfl := k141_open hK
  exact ⟨ad, e, hc 0 _ rfl, by rw [← add_field _ _ 1 (by omega)]; exact hc 1 _ rfl, by rw [← add_field _ _ 2 (by omega)]; exact hc 2 _ rfl⟩

/-! #### struct type 144 -/
structure S144 where
  f0 : Int
  f1 : Int
  f2 : Int
def z144 : S144 := ⟨(0 : Int), (0 : Int), (0 : Int)⟩
def k144 : Kd S144 := Kd.iso (Kd.pair (Kd.int .u32) (Kd.pair (Kd.int .u32) (Kd.int .u32))) (fun x : S144 => (x.f0, x.f1, x.f2))
theorem k144_open {w : World} {x : S144} {cs : List Value} (h : k144.K w x cs) : cs = [.int .u32 x.f0, .int .u32 x.f1, .int .u32 x.f2] := by
  obtain ⟨_, _, rfl, rfl, ⟨_, _, rfl, rfl, rfl⟩⟩ := h
  exact rfl
theorem k144_openM {w : World} {base : Nat} {ok : Nat → Prop} {x : S144} {cs : List Value} (h : k144.M w base ok x cs) : cs = [.int .u32 x.f0, .int .u32 x.f1, .int .u32 x.f2] := by
  obtain ⟨_, _, rfl, rfl, ⟨_, _, rfl, rfl, rfl⟩⟩ := h
  exact rfl
theorem k144_mk (w : World) (x : S144)  : k144.K w x [.int .u32 x.f0, .int .u32 x.f1, .int .u32 x.f2] := ⟨[.int .u32 x.f0], [.int .u32 x.f1, .int .u32 x.f2], rfl, rfl, ⟨[.int .u32 x.f1], [.int .u32 x.f2], rfl, rfl, rfl⟩⟩
theorem k144_mkM (w : World) (base : Nat) (ok : Nat → Prop) (x : S144)  : k144.M w base ok x [.int .u32 x.f0, .int .u32 x.f1, .int .u32 x.f2] := ⟨[.int .u32 x.f0], [.int .u32 x.f1, .int .u32 x.f2], rfl, rfl, ⟨[.int .u32 x.f1], [.int .u32 x.f2], rfl, rfl, rfl⟩⟩
def rd_T144 (xs : List S144) (i : Int) : S144 := xs.getD i.toNat z144
theorem at_T144 {w : World} {A : Option Addr} {n : Nat} {xs : List S144} (h : Kd.C k144 w A n xs) (i : Int) (h0 : 0 ≤ i) (h1 : i < n) : ∃ ad , A = some ad ∧ w.cell? (ad.add (i.toNat * 3)) = some (.int .u32 (rd_T144 xs i).f0) ∧ w.cell? ⟨(ad.add (i.toNat * 3)).block, (ad.add (i.toNat * 3)).off + 1, none⟩ = some (.int .u32 (rd_T144 xs i).f1) ∧ w.cell? ⟨(ad.add (i.toNat * 3)).block, (ad.add (i.toNat * 3)).off + 2, none⟩ = some (.int .u32 (rd_T144 xs i).f2) := by
  obtain ⟨ad, c, e, _, hK, hc0⟩ := Kd.C_get h z144 i h0 h1
  have hc : ∀ j u, c[j]? = some u → w.cell? (ad.add (i.toNat * 3 + j)) = some u := hc0
  obtain rfl := k144_open hK
  exact ⟨ad, e, hc 0 _ rfl, by rw [← add_field _ _ 1 (by omega)]; exact hc 1 _ rfl, by rw [← add_field _ _ 2 (by omega)]; exact hc 2 _ rfl⟩

end Go.Proofs.YtddmlhcjbifkoaaDoor.PWordsJoins
