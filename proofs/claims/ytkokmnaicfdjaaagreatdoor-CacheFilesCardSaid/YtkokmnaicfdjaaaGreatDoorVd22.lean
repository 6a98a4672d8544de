/-
  DERIVED: THE SHELF's CONTRACTS AT THIS DUMP, IN PLAIN WORDS (tools/lay-plain.mjs out of 'TryzShelf2.lean', which tools/lay-shelf.mjs wrote): THE SAME DECLARATIONS UNDER THE SAME NAMES: 'import', 'namespace', 'open', 'def', 'theorem' AND NOTHING ELSE: no command of the shelf's: FOR A HAND-IN. Each laying: the table of numbers ('.._ren') and one theorem, a field a fact of the dump's own or the kernel's comparison; each contract: ONE APPLICATION.
-/
import Derived.Shelf.SlIterI.Nil
import Derived.Shelf.SlIterI.Sorted
import Derived.Ground.GgzProg
import Derived.Test.YtkokmnaicfdjaaaGreatDoorProg
namespace Go.Proofs
open Go.Shelf
def Tryz.keysA_ren : Go.Shelf.Ren := ⟨fun | 7 => 34 | 10 => 69 | n => n, fun | 23 => 77 | 26 => 3 | 3 => 9 | 28 => 81 | 0 => 0 | 27 => 80 | 33 => 109 | 4 => 4 | n => n, fun | n => n⟩
theorem Tryz.keysA : Go.Proofs.SlLaysZI.n7 Tryz.prog Tryz.keysA_ren := {
  mixed := by kernel_rfl
  f7 := ⟨Tryz.f34.name, by decide, Tryz.func34.trans (congrArg some (by kernel_rfl))⟩
  f10 := ⟨Tryz.f69.name, by decide, Tryz.func69.trans (congrArg some (by kernel_rfl))⟩
  t0 := Tryz.underlying0
  a0 := Tryz.isAgg0
  z0 := Tryz.sizeOf0
  v0 := Tryz.zeroValue0
  t4 := Tryz.underlying4
  a4 := Tryz.isAgg4
  z4 := Tryz.sizeOf4
  v4 := Tryz.zeroValue4
  t23 := Tryz.underlying77
  a23 := Tryz.isAgg77
  z23 := Tryz.sizeOf77
  v23 := Tryz.zeroValue77
  t26 := Tryz.underlying3
  a26 := Tryz.isAgg3
  z26 := Tryz.sizeOf3
  v26 := Tryz.zeroValue3
  t27 := Tryz.underlying80
  a27 := Tryz.isAgg80
  z27 := Tryz.sizeOf80
  v27 := Tryz.zeroValue80
  t28 := Tryz.underlying81
  a28 := Tryz.isAgg81
  z28 := Tryz.sizeOf81
  v28 := Tryz.zeroValue81
  t33 := Tryz.underlying109
  a33 := Tryz.isAgg109
  z33 := Tryz.sizeOf109
  v33 := Tryz.zeroValue109 }
def Tryz.sortedA_ren : Go.Shelf.Ren := ⟨fun | 6 => 33 | 8 => 67 | 9 => 68 | 11 => 115 | 13 => 117 | 12 => 116 | 23 => 169 | 24 => 170 | 14 => 160 | 15 => 161 | 16 => 162 | 17 => 163 | 18 => 164 | 19 => 165 | 20 => 166 | 21 => 167 | 22 => 168 | 25 => 200 | 26 => 201 | 27 => 202 | 28 => 203 | 29 => 204 | 30 => 205 | 31 => 217 | n => n, fun | 26 => 3 | 28 => 81 | 24 => 78 | 0 => 0 | 3 => 3 | 37 => 165 | 48 => 60 | 50 => 22 | 4 => 4 | 40 => 208 | 39 => 207 | 45 => 185 | 5 => 5 | 9 => 9 | 51 => 256 | 55 => 239 | 57 => 270 | 58 => 233 | 33 => 109 | n => n, fun | n => n⟩
theorem Tryz.sortedA : Go.Proofs.SlLaysZI.n6 Tryz.prog Tryz.sortedA_ren := {
  mixed := by kernel_rfl
  f6 := ⟨Tryz.f33.name, by decide, Tryz.func33.trans (congrArg some (by kernel_rfl))⟩
  f8 := ⟨Tryz.f67.name, by decide, Tryz.func67.trans (congrArg some (by kernel_rfl))⟩
  f11 := ⟨Tryz.f115.name, by decide, Tryz.func115.trans (congrArg some (by kernel_rfl))⟩
  t0 := Tryz.underlying0
  a0 := Tryz.isAgg0
  z0 := Tryz.sizeOf0
  v0 := Tryz.zeroValue0
  t24 := Tryz.underlying78
  a24 := Tryz.isAgg78
  z24 := Tryz.sizeOf78
  v24 := Tryz.zeroValue78
  t26 := Tryz.underlying3
  a26 := Tryz.isAgg3
  z26 := Tryz.sizeOf3
  v26 := Tryz.zeroValue3
  t28 := Tryz.underlying81
  a28 := Tryz.isAgg81
  z28 := Tryz.sizeOf81
  v28 := Tryz.zeroValue81
  i26 := by kernel_rfl }
end Go.Proofs
