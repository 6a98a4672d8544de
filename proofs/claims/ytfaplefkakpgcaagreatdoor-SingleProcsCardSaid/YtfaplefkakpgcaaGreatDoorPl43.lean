import Derived.Test.YtfaplefkakpgcaaGreatDoorPl21
import Derived.Test.YtfaplefkakpgcaaGreatDoorRows
import Derived.LaidMore
import Derived.MakeChecks
import Derived.Stop.Joined
import Derived.Stop.LaidErr
import Derived.Lib.LaidU8
import Derived.Look8
set_option linter.unusedVariables false
set_option linter.unusedSimpArgs false
set_option maxHeartbeats 32000000
set_option maxRecDepth 100000
namespace Go.Proofs.YtfaplefkakpgcaaGreatDoor
open Go.Proofs.Tryz
open Go.ChangeShapes Go.RowKit
def Qcl:List (String × DataW Unit):=[("math/bits.deBruijn32tab",Rows.laid_math_bits_deBruijn32tab),("math/bits.deBruijn64tab",Rows.laid_math_bits_deBruijn64tab),("internal/strconv.uint64pow10",Rows.laid_internal_strconv_uint64pow10),("strconv.ErrRange",Rows.laid_strconv_ErrRange),("strconv.ErrSyntax",Rows.laid_strconv_ErrSyntax)]
theorem tr:prog.globalNamed "internal/strconv.uint64pow10"=some 3:=by kernel_rfl
theorem Sv:prog.globalNamed "strconv.ErrSyntax"=some 4:=by kernel_rfl
theorem Su:prog.globalNamed "strconv.ErrRange"=some 5:=by kernel_rfl
theorem uy:(prog.globals[3]?).map (·.type)=some 310:=by kernel_rfl
theorem vB:(prog.globals[4]?).map (·.type)=some 174:=by kernel_rfl
theorem vA:(prog.globals[5]?).map (·.type)=some 174:=by kernel_rfl
theorem tU:prog.cellsOf 31=1:=by kernel_rfl
theorem tT:prog.cellsOf 310=20:=by kernel_rfl
theorem io:prog.cellsOf 321=1:=by kernel_rfl
theorem ip:prog.cellsOf 9=1:=by kernel_rfl
theorem la:"*" ++ "errors.errorString"="*errors.errorString":=by decide
theorem rZ (u:TypeId) (h:prog.typeName? 3 u=some "*errors.errorString"):u=319 :=
 typeName_ptr_named (nm:="errors.errorString") (by rw[la];kernel_rfl) (by kernel_rfl) (by decide) u (by rw[la];exact h)
theorem GG {W:World}(h:laidMetH prog Qcl W):ZG W:=by
 rw[MakeChecks.laidMetH_plain _ _ _ (by kernel_rfl)]at h;have h3:=h.tail.tail;refine⟨Lib.tabIs_of_head tr uy underlying310 underlying31 tU tT (show laidMet prog (("internal/strconv.uint64pow10",Lib.tabData .u64 Lib.pow10Tab)::_) W from h3),λg hg=>?_,λg hg=>?_⟩
 ·obtain rfl:=NU (Sv.symm.trans hg);obtain⟨a,s,hv,_⟩:=laid_sentinel h3.tail.tail Sv vB underlying174 rZ underlying319 underlying321 rfl rfl underlying9 io ip;exact⟨_,_,by simpa using World.var?_cell Sv hv 0⟩
 ·obtain rfl:=NU (Su.symm.trans hg);obtain⟨a,s,hv,_⟩:=laid_sentinel h3.tail Su vA underlying174 rZ underlying319 underlying321 rfl rfl underlying9 io ip;exact⟨_,_,by simpa using World.var?_cell Su hv 0⟩
end Go.Proofs.YtfaplefkakpgcaaGreatDoor
