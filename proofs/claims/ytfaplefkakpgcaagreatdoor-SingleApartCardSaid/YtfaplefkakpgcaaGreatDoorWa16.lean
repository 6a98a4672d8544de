/- The walks of xattr.opened, List and Get on a volume that is one. -/
import Derived.Test.YtfaplefkakpgcaaGreatDoorWa13
import Derived.Test.YtfaplefkakpgcaaGreatDoorWa12
import Derived.Test.YtfaplefkakpgcaaGreatDoorWa6
import Derived.Test.YtfaplefkakpgcaaGreatDoorWa15
import Derived.Deep.DeepCutAuto
import Derived.Deep.AppendLies
import Derived.Deep.RegionLaw
import Derived.Lib.Bytealg
import Derived.BigRegion
namespace Go.Proofs.YtfaplefkakpgcaaGreatDoor
set_option linter.unusedVariables false
set_option linter.unusedSimpArgs false
open Go.RowKit
theorem results_cell3 {fn : Func} {p s r : Tmp} {ty : TypeId} (h : fn.results = #[.cell p ty, .tmp s, .tmp r]) (tmps : Array Value) (w : World) (g : Nat) (t : TypeId) (cs : Array Value) (d : TypeDesc) (v u : Value)
    (hp : tmps.getD p undef = .pointer (some ⟨g, 0, none⟩)) (hs : tmps.getD s undef = v) (hr : tmps.getD r undef = u) (hg : Box w g t cs)
    (hu : Tryz.prog.underlying ty = some d) (hd : isAggD d = true) (hi : (Tryz.prog.info? ty).map (·.size) = some cs.size) :
    (results fn tmps).run Tryz.prog w = .ok (.tuple #[.agg cs, v, u]) w := by
  have hp' : tmps[p]?.getD undef = .pointer (some ⟨g, 0, none⟩) := by simpa using hp
  have hs' : tmps[s]?.getD undef = v := by simpa using hs
  have hr' : tmps[r]?.getD undef = u := by simpa using hr
  simp [results, h, hp', hs', hr', asAddr, run_loadVar_row w g t ty cs (0, 0) d hg hu (by cases d <;> first | rfl | cases hd) hi]
end Go.Proofs.YtfaplefkakpgcaaGreatDoor
/- The document's geometry: Format of 24 blocks and 6 inodes. -/
namespace Go.Proofs.YtfaplefkakpgcaaGreatDoor
set_option linter.unusedVariables false
set_option linter.unusedSimpArgs false
open Go.RowKit
theorem strs_new1 (w : World) (s : List UInt8) : Strs (w.alloc (.cells #[.string (str s)] 9)) (some ⟨w.heap.size, 0, none⟩) 1 [s] := by
  refine ⟨rfl, fun _ => ⟨w.heap.size, 0, rfl, fun j hj => ?_⟩⟩
  rcases (show j = 0 by simpa using hj) with rfl
  exact (Box.new w 9 #[.string (str s)]).cell 0
end Go.Proofs.YtfaplefkakpgcaaGreatDoor
