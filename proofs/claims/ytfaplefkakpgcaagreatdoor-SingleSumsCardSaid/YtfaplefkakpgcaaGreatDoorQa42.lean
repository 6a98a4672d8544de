import Derived.Test.YtfaplefkakpgcaaGreatDoorQa20
import Derived.Test.YtfaplefkakpgcaaGreatDoorRows
import Derived.LaidMore
import Derived.MakeChecks
import Derived.Stop.Joined
import Derived.Stop.LaidErr
import Derived.Lib.LaidU8
import Derived.Look8
set_option linter.unusedVariables false
set_option linter.unusedSimpArgs false
set_option maxHeartbeats 32000000
set_option maxRecDepth 100000
namespace Go.Proofs.YtfaplefkakpgcaaGreatDoor
open Go.Proofs.Tryz
open Go.ChangeShapes Go.RowKit
theorem iU:prog.globalNamed "internal/strconv.uint64pow10"=some 3:=by kernel_rfl
theorem F6:prog.globalNamed "strconv.ErrSyntax"=some 4:=by kernel_rfl
theorem F5:prog.globalNamed "strconv.ErrRange"=some 5:=by kernel_rfl
theorem je:(prog.globals[3]?).map (·.type)=some 310:=by kernel_rfl
theorem jg:(prog.globals[4]?).map (·.type)=some 174:=by kernel_rfl
theorem jf:(prog.globals[5]?).map (·.type)=some 174:=by kernel_rfl
theorem iH:prog.cellsOf 31=1:=by kernel_rfl
theorem iG:prog.cellsOf 310=20:=by kernel_rfl
theorem Ih:prog.cellsOf 321=1:=by kernel_rfl
theorem Ii:prog.cellsOf 9=1:=by kernel_rfl
theorem O9:"*" ++ "errors.errorString"="*errors.errorString":=by decide
theorem fu (u:TypeId) (h:prog.typeName? 3 u=some "*errors.errorString"):u=319 :=
 typeName_ptr_named (nm:="errors.errorString") (by rw[O9];kernel_rfl) (by kernel_rfl) (by decide) u (by rw[O9];exact h)
theorem M6 {W:World}(h3:laidMet prog [("internal/strconv.uint64pow10",Rows.laid_internal_strconv_uint64pow10),("strconv.ErrRange",Rows.laid_strconv_ErrRange),("strconv.ErrSyntax",Rows.laid_strconv_ErrSyntax)] W):JW W:=by
 refine⟨Lib.tabIs_of_head iU je underlying310 underlying31 iH iG (show laidMet prog (("internal/strconv.uint64pow10",Lib.tabData .u64 Lib.pow10Tab)::_) W from h3),λg hg=>?_,λg hg=>?_⟩
 ·obtain rfl:=L0 (F6.symm.trans hg);obtain⟨a,s,hv,_⟩:=laid_sentinel h3.tail.tail F6 jg underlying174 fu underlying319 underlying321 rfl rfl underlying9 Ih Ii;exact⟨_,_,by simpa using World.var?_cell F6 hv 0⟩
 ·obtain rfl:=L0 (F5.symm.trans hg);obtain⟨a,s,hv,_⟩:=laid_sentinel h3.tail F5 jf underlying174 fu underlying319 underlying321 rfl rfl underlying9 Ih Ii;exact⟨_,_,by simpa using World.var?_cell F5 hv 0⟩
end Go.Proofs.YtfaplefkakpgcaaGreatDoor
