import Derived.Shelf.SlSorted.Search
import Derived.Shelf.Strings.LastIndex
import Derived.Test.YtfaplefkakpgcaaGreatDoorProg
set_option linter.unusedVariables false
set_option linter.unusedSimpArgs false
set_option maxHeartbeats 32000000
set_option maxRecDepth 100000
namespace Go.Proofs
open Go.Shelf
def Tryz.search_ren:Go.Shelf.Ren:=⟨fun | 16=>179 | n=>n,fun | 3=>3 | 35=>155 | 4=>4 | 38=>231 | n=>n,fun | n=>n⟩
theorem Tryz.search:Go.Proofs.SlLaysO.n16 Tryz.prog Tryz.search_ren:={
 mixed:=by kernel_rfl
 f16:=Tryz.func179.trans (congrArg some (by kernel_rfl))
 t3:=Tryz.underlying3
 a3:=Tryz.isAgg3
 z3:=Tryz.sizeOf3
 v3:=Tryz.zeroValue3
 t4:=Tryz.underlying4
 a4:=Tryz.isAgg4
 z4:=Tryz.sizeOf4
 v4:=Tryz.zeroValue4
 t35:=Tryz.underlying155
 a35:=Tryz.isAgg155
 z35:=Tryz.sizeOf155
 v35:=Tryz.zeroValue155
 t38:=Tryz.underlying231
 a38:=Tryz.isAgg231
 z38:=Tryz.sizeOf231
 v38:=Tryz.zeroValue231 }
end Go.Proofs
