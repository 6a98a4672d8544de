/- The table of the powers of ten, and strconv's two errors, lie where they were laid. -/
import Derived.Test.YtfaplefkakpgcaaGreatDoorWc21
import Derived.Test.YtfaplefkakpgcaaGreatDoorRows
import Derived.LaidMore
import Derived.MakeChecks
import Derived.Stop.Joined
import Derived.Stop.LaidErr
import Derived.Lib.LaidU8
import Derived.Look8
namespace Go.Proofs.YtfaplefkakpgcaaGreatDoor
set_option linter.unusedVariables false
set_option linter.unusedSimpArgs false
open Go.ChangeShapes Go.RowKit
def laid5 : List (String × DataW Unit) := [("math/bits.deBruijn32tab", Rows.laid_math_bits_deBruijn32tab), ("math/bits.deBruijn64tab", Rows.laid_math_bits_deBruijn64tab), ("internal/strconv.uint64pow10", Rows.laid_internal_strconv_uint64pow10), ("strconv.ErrRange", Rows.laid_strconv_ErrRange), ("strconv.ErrSyntax", Rows.laid_strconv_ErrSyntax)]
theorem g10Pow : Tryz.prog.globalNamed "internal/strconv.uint64pow10" = some 3 := by kernel_rfl
theorem g10Syn : Tryz.prog.globalNamed "strconv.ErrSyntax" = some 4 := by kernel_rfl
theorem g10Rng : Tryz.prog.globalNamed "strconv.ErrRange" = some 5 := by kernel_rfl
theorem t10Pow : (Tryz.prog.globals[3]?).map (·.type) = some 310 := by kernel_rfl
theorem t10Syn : (Tryz.prog.globals[4]?).map (·.type) = some 174 := by kernel_rfl
theorem t10Rng : (Tryz.prog.globals[5]?).map (·.type) = some 174 := by kernel_rfl
theorem c10U64 : Tryz.prog.cellsOf 31 = 1 := by kernel_rfl
theorem c10Pow : Tryz.prog.cellsOf 310 = 20 := by kernel_rfl
theorem c10Err : Tryz.prog.cellsOf 321 = 1 := by kernel_rfl
theorem c10Str : Tryz.prog.cellsOf 9 = 1 := by kernel_rfl
theorem star10 : "*" ++ "errors.errorString" = "*errors.errorString" := by decide
theorem row10 (u : TypeId) (h : Tryz.prog.typeName? 3 u = some "*errors.errorString") : u = 319 :=
 typeName_ptr_named (nm := "errors.errorString") (by rw [star10]; kernel_rfl) (by kernel_rfl) (by decide) u (by rw [star10]; exact h)
theorem dec10_of_laid {W : World} (h : laidMetH Tryz.prog laid5 W) : Dec10 W := by
 rw [MakeChecks.laidMetH_plain _ _ _ (by kernel_rfl)] at h
 have h3 := h.tail.tail
 refine ⟨Lib.tabIs_of_head g10Pow t10Pow Tryz.underlying310 Tryz.underlying31 c10U64 c10Pow (show laidMet Tryz.prog (("internal/strconv.uint64pow10", Lib.tabData .u64 Lib.pow10Tab) :: _) W from h3), fun g hg => ?_, fun g hg => ?_⟩
 ·obtain rfl := Option.some.inj (g10Syn.symm.trans hg)
  obtain ⟨a, s, hv, _⟩ := laid_sentinel h3.tail.tail g10Syn t10Syn Tryz.underlying174 row10 Tryz.underlying319 Tryz.underlying321 rfl rfl Tryz.underlying9 c10Err c10Str
  exact ⟨_, _, by simpa using World.var?_cell g10Syn hv 0⟩
 ·obtain rfl := Option.some.inj (g10Rng.symm.trans hg)
  obtain ⟨a, s, hv, _⟩ := laid_sentinel h3.tail g10Rng t10Rng Tryz.underlying174 row10 Tryz.underlying319 Tryz.underlying321 rfl rfl Tryz.underlying9 c10Err c10Str
  exact ⟨_, _, by simpa using World.var?_cell g10Rng hv 0⟩
end Go.Proofs.YtfaplefkakpgcaaGreatDoor
