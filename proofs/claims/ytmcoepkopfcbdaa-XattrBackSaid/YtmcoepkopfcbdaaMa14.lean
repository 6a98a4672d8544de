/-
  DERIVED: THE SHELF's CONTRACTS AT THIS DUMP, IN PLAIN WORDS (tools/lay-plain.mjs out of 'TryShelf2.lean', which tools/lay-shelf.mjs wrote): THE SAME DECLARATIONS UNDER THE SAME NAMES: 'import', 'namespace', 'open', 'def', 'theorem' AND NOTHING ELSE: no command of the shelf's: FOR A HAND-IN. Each laying: the table of numbers ('.._ren') and one theorem, a field a fact of the dump's own or the kernel's comparison; each contract: ONE APPLICATION.
-/
import Derived.Shelf.SlSortCmp.NoneTotal
import Derived.Shelf.SlSortCmp.WholeK
import Derived.Shelf.SlGeneric
import Derived.Ground.SlsfProg
import Derived.Test.YtmcoepkopfcbdaaProg
namespace Go.Proofs
open Go.Shelf
def Try.sortAtt_ren : Go.Shelf.Ren := ⟨fun | 6 => 23 | 15 => 48 | 14 => 47 | 28 => 76 | 29 => 77 | 20 => 68 | 21 => 69 | 22 => 70 | 23 => 71 | 24 => 72 | 25 => 73 | 26 => 74 | 27 => 75 | 46 => 90 | 47 => 91 | 48 => 92 | 49 => 93 | 50 => 94 | 57 => 101 | n => n, fun | 22 => 40 | 24 => 44 | 25 => 61 | 3 => 3 | 39 => 83 | 0 => 0 | 53 => 107 | 55 => 91 | 4 => 4 | 46 => 100 | 45 => 99 | 50 => 104 | 5 => 5 | 9 => 9 | 66 => 130 | 70 => 122 | 76 => 143 | 77 => 125 | n => n, fun | n => n⟩
theorem Try.sortAtt : Go.Proofs.SlLaysF0.n6 Try.prog Try.sortAtt_ren := {
  mixed := by kernel_rfl
  f6 := ⟨Try.f23.name, by decide, Try.func23.trans (congrArg some (by kernel_rfl))⟩
  f14 := ⟨Try.f47.name, by decide, Try.func47.trans (congrArg some (by kernel_rfl))⟩
  f15 := Try.func48.trans (congrArg some (by kernel_rfl))
  f20 := ⟨Try.f68.name, by decide, Try.func68.trans (congrArg some (by kernel_rfl))⟩
  f21 := ⟨Try.f69.name, by decide, Try.func69.trans (congrArg some (by kernel_rfl))⟩
  f22 := ⟨Try.f70.name, by decide, Try.func70.trans (congrArg some (by kernel_rfl))⟩
  f23 := ⟨Try.f71.name, by decide, Try.func71.trans (congrArg some (by kernel_rfl))⟩
  f24 := ⟨Try.f72.name, by decide, Try.func72.trans (congrArg some (by kernel_rfl))⟩
  f25 := ⟨Try.f73.name, by decide, Try.func73.trans (congrArg some (by kernel_rfl))⟩
  f26 := ⟨Try.f74.name, by decide, Try.func74.trans (congrArg some (by kernel_rfl))⟩
  f27 := ⟨Try.f75.name, by decide, Try.func75.trans (congrArg some (by kernel_rfl))⟩
  f28 := Try.func76.trans (congrArg some (by kernel_rfl))
  f29 := Try.func77.trans (congrArg some (by kernel_rfl))
  f46 := ⟨Try.f90.name, by decide, Try.func90.trans (congrArg some (by kernel_rfl))⟩
  f47 := Try.func91.trans (congrArg some (by kernel_rfl))
  f48 := Try.func92.trans (congrArg some (by kernel_rfl))
  f49 := ⟨Try.f93.name, by decide, Try.func93.trans (congrArg some (by kernel_rfl))⟩
  f50 := ⟨Try.f94.name, by decide, Try.func94.trans (congrArg some (by kernel_rfl))⟩
  f57 := ⟨Try.f101.name, by decide, Try.func101.trans (congrArg some (by kernel_rfl))⟩
  t0 := Try.underlying0
  a0 := Try.isAgg0
  z0 := Try.sizeOf0
  v0 := Try.zeroValue0
  t3 := Try.underlying3
  a3 := Try.isAgg3
  z3 := Try.sizeOf3
  v3 := Try.zeroValue3
  t4 := Try.underlying4
  a4 := Try.isAgg4
  z4 := Try.sizeOf4
  v4 := Try.zeroValue4
  t5 := Try.underlying5
  a5 := Try.isAgg5
  z5 := Try.sizeOf5
  v5 := Try.zeroValue5
  t9 := Try.underlying9
  a9 := Try.isAgg9
  z9 := Try.sizeOf9
  v9 := Try.zeroValue9
  t22 := Try.underlying40
  a22 := Try.isAgg40
  z22 := Try.sizeOf40
  v22 := Try.zeroValue40
  t25 := Try.underlying61
  a25 := Try.isAgg61
  z25 := Try.sizeOf61
  v25 := Try.zeroValue61
  t39 := Try.underlying83
  a39 := Try.isAgg83
  z39 := Try.sizeOf83
  v39 := Try.zeroValue83
  t45 := Try.underlying99
  a45 := Try.isAgg99
  z45 := Try.sizeOf99
  v45 := Try.zeroValue99
  t46 := Try.underlying100
  a46 := Try.isAgg100
  z46 := Try.sizeOf100
  v46 := Try.zeroValue100
  t50 := Try.underlying104
  a50 := Try.isAgg104
  z50 := Try.sizeOf104
  v50 := Try.zeroValue104
  t53 := Try.underlying107
  a53 := Try.isAgg107
  z53 := Try.sizeOf107
  v53 := Try.zeroValue107
  t55 := Try.underlying91
  a55 := Try.isAgg91
  z55 := Try.sizeOf91
  v55 := Try.zeroValue91
  t66 := Try.underlying130
  a66 := Try.isAgg130
  z66 := Try.sizeOf130
  v66 := Try.zeroValue130
  t70 := Try.underlying122
  a70 := Try.isAgg122
  z70 := Try.sizeOf122
  v70 := Try.zeroValue122
  t76 := Try.underlying143
  a76 := Try.isAgg143
  z76 := Try.sizeOf143
  v76 := Try.zeroValue143
  t77 := Try.underlying125
  a77 := Try.isAgg125
  z77 := Try.sizeOf125
  v77 := Try.zeroValue125 }
end Go.Proofs
