/-
  DERIVED: THE SHELF's CONTRACTS AT THIS DUMP, IN PLAIN WORDS (tools/lay-plain.mjs out of 'TrydShelfS.lean', which tools/lay-shelf.mjs wrote): THE SAME DECLARATIONS UNDER THE SAME NAMES: 'import', 'namespace', 'open', 'def', 'theorem' AND NOTHING ELSE: no command of the shelf's: FOR A HAND-IN. Each laying: the table of numbers ('.._ren') and one theorem, a field a fact of the dump's own or the kernel's comparison; each contract: ONE APPLICATION.
-/
import Derived.Shelf.SlSortCmp.NoneTotal
import Derived.Shelf.Small.Bits
import Derived.Shelf.Small.Wraps
import Derived.Ground.SlsfProg
import Derived.Test.YtddmlhcjbifkoaaDoorProg
namespace Go.Proofs
open Go.Shelf
def Tryd.lSort_ren : Go.Shelf.Ren := ⟨fun | 6 => 83 | 15 => 100 | 14 => 99 | 28 => 127 | 29 => 128 | 20 => 119 | 21 => 120 | 22 => 121 | 23 => 122 | 24 => 123 | 25 => 124 | 26 => 125 | 27 => 126 | 46 => 138 | 47 => 139 | 48 => 140 | 49 => 141 | 50 => 142 | 57 => 145 | n => n, fun | 22 => 63 | 24 => 41 | 25 => 42 | 3 => 3 | 39 => 134 | 0 => 0 | 53 => 118 | 55 => 153 | 4 => 4 | 46 => 167 | 45 => 166 | 50 => 80 | 5 => 5 | 9 => 9 | 66 => 184 | 70 => 188 | 76 => 193 | 77 => 194 | n => n, fun | n => n⟩
theorem Tryd.lSort : Go.Proofs.SlLaysF0.n6 Tryd.prog Tryd.lSort_ren := {
  mixed := by kernel_rfl
  f6 := ⟨Tryd.f83.name, by decide, Tryd.func83.trans (congrArg some (by kernel_rfl))⟩
  f14 := ⟨Tryd.f99.name, by decide, Tryd.func99.trans (congrArg some (by kernel_rfl))⟩
  f15 := Tryd.func100.trans (congrArg some (by kernel_rfl))
  f20 := ⟨Tryd.f119.name, by decide, Tryd.func119.trans (congrArg some (by kernel_rfl))⟩
  f21 := ⟨Tryd.f120.name, by decide, Tryd.func120.trans (congrArg some (by kernel_rfl))⟩
  f22 := ⟨Tryd.f121.name, by decide, Tryd.func121.trans (congrArg some (by kernel_rfl))⟩
  f23 := ⟨Tryd.f122.name, by decide, Tryd.func122.trans (congrArg some (by kernel_rfl))⟩
  f24 := ⟨Tryd.f123.name, by decide, Tryd.func123.trans (congrArg some (by kernel_rfl))⟩
  f25 := ⟨Tryd.f124.name, by decide, Tryd.func124.trans (congrArg some (by kernel_rfl))⟩
  f26 := ⟨Tryd.f125.name, by decide, Tryd.func125.trans (congrArg some (by kernel_rfl))⟩
  f27 := ⟨Tryd.f126.name, by decide, Tryd.func126.trans (congrArg some (by kernel_rfl))⟩
  f28 := Tryd.func127.trans (congrArg some (by kernel_rfl))
  f29 := Tryd.func128.trans (congrArg some (by kernel_rfl))
  f46 := ⟨Tryd.f138.name, by decide, Tryd.func138.trans (congrArg some (by kernel_rfl))⟩
  f47 := Tryd.func139.trans (congrArg some (by kernel_rfl))
  f48 := Tryd.func140.trans (congrArg some (by kernel_rfl))
  f49 := ⟨Tryd.f141.name, by decide, Tryd.func141.trans (congrArg some (by kernel_rfl))⟩
  f50 := ⟨Tryd.f142.name, by decide, Tryd.func142.trans (congrArg some (by kernel_rfl))⟩
  f57 := ⟨Tryd.f145.name, by decide, Tryd.func145.trans (congrArg some (by kernel_rfl))⟩
  t0 := Tryd.underlying0
  a0 := Tryd.isAgg0
  z0 := Tryd.sizeOf0
  v0 := Tryd.zeroValue0
  t3 := Tryd.underlying3
  a3 := Tryd.isAgg3
  z3 := Tryd.sizeOf3
  v3 := Tryd.zeroValue3
  t4 := Tryd.underlying4
  a4 := Tryd.isAgg4
  z4 := Tryd.sizeOf4
  v4 := Tryd.zeroValue4
  t5 := Tryd.underlying5
  a5 := Tryd.isAgg5
  z5 := Tryd.sizeOf5
  v5 := Tryd.zeroValue5
  t9 := Tryd.underlying9
  a9 := Tryd.isAgg9
  z9 := Tryd.sizeOf9
  v9 := Tryd.zeroValue9
  t22 := Tryd.underlying63
  a22 := Tryd.isAgg63
  z22 := Tryd.sizeOf63
  v22 := Tryd.zeroValue63
  t25 := Tryd.underlying42
  a25 := Tryd.isAgg42
  z25 := Tryd.sizeOf42
  v25 := Tryd.zeroValue42
  t39 := Tryd.underlying134
  a39 := Tryd.isAgg134
  z39 := Tryd.sizeOf134
  v39 := Tryd.zeroValue134
  t45 := Tryd.underlying166
  a45 := Tryd.isAgg166
  z45 := Tryd.sizeOf166
  v45 := Tryd.zeroValue166
  t46 := Tryd.underlying167
  a46 := Tryd.isAgg167
  z46 := Tryd.sizeOf167
  v46 := Tryd.zeroValue167
  t50 := Tryd.underlying80
  a50 := Tryd.isAgg80
  z50 := Tryd.sizeOf80
  v50 := Tryd.zeroValue80
  t53 := Tryd.underlying118
  a53 := Tryd.isAgg118
  z53 := Tryd.sizeOf118
  v53 := Tryd.zeroValue118
  t55 := Tryd.underlying153
  a55 := Tryd.isAgg153
  z55 := Tryd.sizeOf153
  v55 := Tryd.zeroValue153
  t66 := Tryd.underlying184
  a66 := Tryd.isAgg184
  z66 := Tryd.sizeOf184
  v66 := Tryd.zeroValue184
  t70 := Tryd.underlying188
  a70 := Tryd.isAgg188
  z70 := Tryd.sizeOf188
  v70 := Tryd.zeroValue188
  t76 := Tryd.underlying193
  a76 := Tryd.isAgg193
  z76 := Tryd.sizeOf193
  v76 := Tryd.zeroValue193
  t77 := Tryd.underlying194
  a77 := Tryd.isAgg194
  z77 := Tryd.sizeOf194
  v77 := Tryd.zeroValue194 }
end Go.Proofs
