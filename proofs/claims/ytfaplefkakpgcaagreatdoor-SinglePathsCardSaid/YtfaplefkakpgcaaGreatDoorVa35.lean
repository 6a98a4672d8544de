/- The document's geometry: Format of 24 blocks and 6 inodes. -/
import Derived.Test.YtfaplefkakpgcaaGreatDoorVa12
import Derived.Test.YtfaplefkakpgcaaGreatDoorVa8
import Derived.Test.YtfaplefkakpgcaaGreatDoorVa26
import Derived.Test.YtfaplefkakpgcaaGreatDoorVa25
import Derived.Deep.DeepCutAuto
import Derived.Deep.AppendLies
import Derived.Deep.RegionLaw
import Derived.Lib.Bytealg
import Derived.BigRegion
namespace Go.Proofs.YtfaplefkakpgcaaGreatDoor
set_option linter.unusedVariables false
set_option linter.unusedSimpArgs false
open Go.RowKit
theorem strs_new1 (w : World) (s : List UInt8) : Strs (w.alloc (.cells #[.string (str s)] 9)) (some ⟨w.heap.size, 0, none⟩) 1 [s] := by
  refine ⟨rfl, fun _ => ⟨w.heap.size, 0, rfl, fun j hj => ?_⟩⟩
  rcases (show j = 0 by simpa using hj) with rfl
  exact (Box.new w 9 #[.string (str s)]).cell 0
end Go.Proofs.YtfaplefkakpgcaaGreatDoor
