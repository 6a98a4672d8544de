/- The table of the powers of ten, and strconv's two errors, lie where they were laid. -/
import Derived.Test.YtfaplefkakpgcaaGreatDoorXf13
import Derived.Test.YtfaplefkakpgcaaGreatDoorRows
import Derived.LaidMore
import Derived.MakeChecks
import Derived.Stop.Joined
import Derived.Stop.LaidErr
import Derived.Lib.LaidU8
import Derived.Look8
set_option linter.unusedVariables false
set_option linter.unusedSimpArgs false
set_option maxHeartbeats 32000000
set_option maxRecDepth 100000
namespace Go.Proofs.YtfaplefkakpgcaaGreatDoor
open Go.Proofs.Tryz
open Go.ChangeShapes Go.RowKit
def laid5:List (String × DataW Unit):=[("math/bits.deBruijn32tab",Rows.laid_math_bits_deBruijn32tab),("math/bits.deBruijn64tab",Rows.laid_math_bits_deBruijn64tab),("internal/strconv.uint64pow10",Rows.laid_internal_strconv_uint64pow10),("strconv.ErrRange",Rows.laid_strconv_ErrRange),("strconv.ErrSyntax",Rows.laid_strconv_ErrSyntax)]
theorem g10Pow:prog.globalNamed "internal/strconv.uint64pow10"=some 3:=by kernel_rfl
theorem g10Syn:prog.globalNamed "strconv.ErrSyntax"=some 4:=by kernel_rfl
theorem g10Rng:prog.globalNamed "strconv.ErrRange"=some 5:=by kernel_rfl
theorem t10Pow:(prog.globals[3]?).map (·.type)=some 310:=by kernel_rfl
theorem t10Syn:(prog.globals[4]?).map (·.type)=some 174:=by kernel_rfl
theorem t10Rng:(prog.globals[5]?).map (·.type)=some 174:=by kernel_rfl
theorem c10U64:prog.cellsOf 31=1:=by kernel_rfl
theorem c10Pow:prog.cellsOf 310=20:=by kernel_rfl
theorem c10Err:prog.cellsOf 321=1:=by kernel_rfl
theorem c10Str:prog.cellsOf 9=1:=by kernel_rfl
theorem star10:"*" ++ "errors.errorString"="*errors.errorString":=by decide
theorem row10 (u:TypeId) (h:prog.typeName? 3 u=some "*errors.errorString"):u=319 :=
 typeName_ptr_named (nm:="errors.errorString") (by rw[star10];kernel_rfl) (by kernel_rfl) (by decide) u (by rw[star10];exact h)
theorem dec10_of_laid {W:World}(h:laidMetH prog laid5 W):Dec10 W:=by
 rw[MakeChecks.laidMetH_plain _ _ _ (by kernel_rfl)]at h;have h3:=h.tail.tail;refine⟨Lib.tabIs_of_head g10Pow t10Pow underlying310 underlying31 c10U64 c10Pow (show laidMet prog (("internal/strconv.uint64pow10",Lib.tabData .u64 Lib.pow10Tab)::_) W from h3),λg hg=>?_,λg hg=>?_⟩
 ·obtain rfl:=Option.some.inj (g10Syn.symm.trans hg);obtain⟨a,s,hv,_⟩:=laid_sentinel h3.tail.tail g10Syn t10Syn underlying174 row10 underlying319 underlying321 rfl rfl underlying9 c10Err c10Str;exact⟨_,_,by simpa using World.var?_cell g10Syn hv 0⟩
 ·obtain rfl:=Option.some.inj (g10Rng.symm.trans hg);obtain⟨a,s,hv,_⟩:=laid_sentinel h3.tail g10Rng t10Rng underlying174 row10 underlying319 underlying321 rfl rfl underlying9 c10Err c10Str;exact⟨_,_,by simpa using World.var?_cell g10Rng hv 0⟩
end Go.Proofs.YtfaplefkakpgcaaGreatDoor
