/-
  No cell of these rows narrows 'for every input' (looked for: loops, veiled, ifaces, maps, wideKeys, modest, calm, conditions, laid).
  DERIVED. THE GIVEN ROWS OF THIS SEAT. 3 by the template 'for every input the law returns true; each argument reads behind the call as it read before'; 0 by the template 'total and deterministic' (their statements: YtmcoepkopfcbdaaTotals.lean).
  GIVEN WITH THE SEED: the statements are not yours to turn. If you find one false, say at which input.
  Laid BY PROGRAM, IN A SANDBOX (cutbox-rows.mjs): the forced cells as the released guide's own fill.sh prints them over the translation 05cebeec8184b54f… (all of the seat's roots in one cut). By AI agents, Wed Nov 11 2026. No macro, syntax, notation, axiom, sorry.
-/
import Derived.Test.YtmcoepkopfcbdaaChecked
import GoSem.Claim
import GoSem.ClaimJoined
import GoSem.ClaimMapViews
import Derived.JoinedTies
import Derived.KernelRfl
namespace Go.Proofs.Ytmcoepkopfcbdaa
/- THE CELL 'sum', in the pinned program and in every row, IS THE sha256 OF THE DUMP (.gsa) THAT YtmcoepkopfcbdaaProg.lean LOADS. Nothing in Lean hashes anything: it is a label: what it is worth is what the hold of that sum in a sandbox is worth. -/
noncomputable def Try.pinned : Pinned := { name := "ytmcoepkopfcbdaa", sum := "05cebeec8184b54fc7d641bd8e6a90297b73118ab38f561adf6f515701044918", checked := Try.checked }
namespace Rows
def none {H : Type} : Left H := { results := [], args := [] }

/-- 'hibernaclelaw21.XattrFull': WHATEVER THE INPUT: true; the input reads as it did. -/
def xattrFullSpec : ChangeSpec := { name := "xattrFull", fn := fun _ => fun
  | [d1, d2] => { results := [.lit (.bool true)], args := [d1, d2] }
  | _ => none }
def xattrFullRow : OpenClaim := { program := "ytmcoepkopfcbdaa", sum := "05cebeec8184b54fc7d641bd8e6a90297b73118ab38f561adf6f515701044918", func := "hibernacle/hibernaclelaw21.XattrFull", spec := "xattrFull", inPlace := ["internal/abi.NoEscape", "internal/bytealg.MakeNoZero", "internal/bytealg.abigen_runtime_cmpstring"], unfollowed := true, recurses := true, apart := false }
def XattrFullSaid : Prop := xattrFullRow.holds Try.pinned (OpenSpec.ofChange xattrFullSpec)

/-- ITS FALSE NEIGHBOUR: 'it returns false'. Refute it at one input. -/
def xattrFullWrong : ChangeSpec := { name := "xattrFull", fn := fun _ => fun
  | [d1, d2] => { results := [.lit (.bool false)], args := [d1, d2] }
  | _ => none }
def XattrFullWrongFalsely : Prop := xattrFullRow.holds Try.pinned (OpenSpec.ofChange xattrFullWrong)

/-- 'hibernaclelaw21.XattrBack': WHATEVER THE INPUT: true; the input reads as it did. -/
def xattrBackSpec : ChangeSpec := { name := "xattrBack", fn := fun _ => fun
  | [d1, d2] => { results := [.lit (.bool true)], args := [d1, d2] }
  | _ => none }
def xattrBackRow : OpenClaim := { program := "ytmcoepkopfcbdaa", sum := "05cebeec8184b54fc7d641bd8e6a90297b73118ab38f561adf6f515701044918", func := "hibernacle/hibernaclelaw21.XattrBack", spec := "xattrBack", inPlace := ["internal/abi.NoEscape", "internal/bytealg.MakeNoZero", "internal/bytealg.abigen_runtime_cmpstring"], unfollowed := true, recurses := true, apart := false }
def XattrBackSaid : Prop := xattrBackRow.holds Try.pinned (OpenSpec.ofChange xattrBackSpec)

/-- ITS FALSE NEIGHBOUR: 'it returns false'. Refute it at one input. -/
def xattrBackWrong : ChangeSpec := { name := "xattrBack", fn := fun _ => fun
  | [d1, d2] => { results := [.lit (.bool false)], args := [d1, d2] }
  | _ => none }
def XattrBackWrongFalsely : Prop := xattrBackRow.holds Try.pinned (OpenSpec.ofChange xattrBackWrong)

/-- 'hibernaclelaw21.XattrApart': WHATEVER THE INPUT: true; the input reads as it did. -/
def xattrApartSpec : ChangeSpec := { name := "xattrApart", fn := fun _ => fun
  | [d1, d2] => { results := [.lit (.bool true)], args := [d1, d2] }
  | _ => none }
def xattrApartRow : OpenClaim := { program := "ytmcoepkopfcbdaa", sum := "05cebeec8184b54fc7d641bd8e6a90297b73118ab38f561adf6f515701044918", func := "hibernacle/hibernaclelaw21.XattrApart", spec := "xattrApart", inPlace := ["internal/abi.NoEscape", "internal/bytealg.MakeNoZero", "internal/bytealg.abigen_runtime_cmpstring"], unfollowed := true, recurses := true, apart := false }
def XattrApartSaid : Prop := xattrApartRow.holds Try.pinned (OpenSpec.ofChange xattrApartSpec)

/-- ITS FALSE NEIGHBOUR: 'it returns false'. Refute it at one input. -/
def xattrApartWrong : ChangeSpec := { name := "xattrApart", fn := fun _ => fun
  | [d1, d2] => { results := [.lit (.bool false)], args := [d1, d2] }
  | _ => none }
def XattrApartWrongFalsely : Prop := xattrApartRow.holds Try.pinned (OpenSpec.ofChange xattrApartWrong)

/- THE SECOND FORM. 'bulk': how many values and letters a reading holds, each counted each time it is reached (what is shared counts as often as it is met; a slice's spare places count too). A statement '..UptoSaid' is the law's where the arguments, and the package variables that the reading takes, are together of bulk at most 1048576: NARROWER than '..Said'. Prove '..Said' where nothing that the law and all that it calls make is longer than what came in: it says more and counts as full. Else prove '..UptoSaid'. A law counts once. -/
mutual
def uptoBulk {H : Type} : DataW H → Nat
  | .lit (.string bytes) => bytes.length + 1
  | .lit _ => 1
  | .nil => 1
  | .ptr d => uptoBulk d + 1
  | .slice elems spare => uptoBulkAll elems + uptoBulkAll spare + 1
  | .agg parts => uptoBulkAll parts + 1
  | .iface _ d => uptoBulk d + 1
  | .map entries => uptoBulkEntries entries + 1
  | .held _ => 1
def uptoBulkAll {H : Type} : List (DataW H) → Nat
  | [] => 0
  | d :: r => uptoBulk d + uptoBulkAll r
def uptoBulkEntries {H : Type} : List (Lit × DataW H) → Nat
  | [] => 0
  | x :: r => uptoBulkEntry x + uptoBulkEntries r
def uptoBulkEntry {H : Type} : Lit × DataW H → Nat
  | (.string bytes, d) => bytes.length + uptoBulk d + 1
  | (_, d) => uptoBulk d + 1
 end
def uptoSmall : (H : Type) → List (DataW H) → Bool := fun _ ds => decide (uptoBulkAll ds ≤ 1048576)
def OpenSpec.upto (s : _root_.Go.ChangeSpec) : _root_.Go.OpenSpec := { _root_.Go.OpenSpec.ofChange s with cond := some uptoSmall }

/-- 'hibernaclelaw21.XattrFull', WHERE WHAT IT READS IS OF BULK AT MOST 1048576: true; the input reads as it did. -/
def xattrFullUptoRow : OpenClaim := { program := "ytmcoepkopfcbdaa", sum := "05cebeec8184b54fc7d641bd8e6a90297b73118ab38f561adf6f515701044918", func := "hibernacle/hibernaclelaw21.XattrFull", spec := "xattrFull", inPlace := ["internal/abi.NoEscape", "internal/bytealg.MakeNoZero", "internal/bytealg.abigen_runtime_cmpstring"], unfollowed := true, recurses := true, apart := false, narrowed := true }
def XattrFullUptoSaid : Prop := xattrFullUptoRow.holds Try.pinned (OpenSpec.upto xattrFullSpec)

/-- 'hibernaclelaw21.XattrBack', WHERE WHAT IT READS IS OF BULK AT MOST 1048576: true; the input reads as it did. -/
def xattrBackUptoRow : OpenClaim := { program := "ytmcoepkopfcbdaa", sum := "05cebeec8184b54fc7d641bd8e6a90297b73118ab38f561adf6f515701044918", func := "hibernacle/hibernaclelaw21.XattrBack", spec := "xattrBack", inPlace := ["internal/abi.NoEscape", "internal/bytealg.MakeNoZero", "internal/bytealg.abigen_runtime_cmpstring"], unfollowed := true, recurses := true, apart := false, narrowed := true }
def XattrBackUptoSaid : Prop := xattrBackUptoRow.holds Try.pinned (OpenSpec.upto xattrBackSpec)

/-- 'hibernaclelaw21.XattrApart', WHERE WHAT IT READS IS OF BULK AT MOST 1048576: true; the input reads as it did. -/
def xattrApartUptoRow : OpenClaim := { program := "ytmcoepkopfcbdaa", sum := "05cebeec8184b54fc7d641bd8e6a90297b73118ab38f561adf6f515701044918", func := "hibernacle/hibernaclelaw21.XattrApart", spec := "xattrApart", inPlace := ["internal/abi.NoEscape", "internal/bytealg.MakeNoZero", "internal/bytealg.abigen_runtime_cmpstring"], unfollowed := true, recurses := true, apart := false, narrowed := true }
def XattrApartUptoSaid : Prop := xattrApartUptoRow.holds Try.pinned (OpenSpec.upto xattrApartSpec)

end Rows
end Go.Proofs.Ytmcoepkopfcbdaa
