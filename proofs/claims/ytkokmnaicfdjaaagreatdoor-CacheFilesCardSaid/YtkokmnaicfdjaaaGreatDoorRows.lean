/-
  NARROWER THAN 'FOR EVERY INPUT', by the rows' own cells (each row's printed sentence says how): CacheViews: laid · CacheKeeps: laid · CacheSyncs: laid · CacheMay: laid · CacheFiles: laid.
  DERIVED. THE GIVEN ROWS OF THIS SEAT. 5 by the template 'for every input the law returns true; each argument reads behind the call as it read before'; 0 by the template 'total and deterministic' (their statements: YtkokmnaicfdjaaaGreatDoorTotals.lean).
  GIVEN WITH THE SEED: the statements are not yours to turn. If you find one false, say at which input.
  Laid BY PROGRAM, IN A SANDBOX (cutbox-rows.mjs): the forced cells as the released guide's own fill.sh prints them over the translation dd77d5915cedd8cb… (all of the seat's roots in one cut). By AI agents, Wed Nov 11 2026. No macro, syntax, notation, axiom, sorry.
-/
import Derived.Test.YtkokmnaicfdjaaaGreatDoorChecked
import GoSem.Claim
import GoSem.ClaimJoined
import GoSem.ClaimMapViews
import Derived.JoinedTies
import Derived.KernelRfl
namespace Go.Proofs.YtkokmnaicfdjaaaGreatDoor
/- THE CELL 'sum', in the pinned program and in every row, IS THE sha256 OF THE DUMP (.gsa) THAT YtkokmnaicfdjaaaGreatDoorProg.lean LOADS. Nothing in Lean hashes anything: it is a label: what it is worth is what the hold of that sum in a sandbox is worth. -/
noncomputable def Tryz.pinned : Pinned := { name := "ytkokmnaicfdjaaagreatdoor", sum := "dd77d5915cedd8cb6ad0b95cd103c3b3763cb37ee629322b04affb665163f0af", checked := Tryz.checked }
namespace Rows
def none {H : Type} : Left H := { results := [], args := [] }

/- WHAT THE LISTED PACKAGE-LEVEL VARIABLES READ AS WHEN THE CALL BEGINS. Each datum BY PROGRAM (the guide's laid-datum.mjs) off the statement by which the dump's own 'gosem.cut.vars' lays the variable. In a bare row this is a premise. The card (YtkokmnaicfdjaaaGreatDoorCards.lean) ties it to the program's text. -/
def laid_hibernacle_hash_eight {H : Type} : DataW H := .agg [.lit (.int .u32 1779033703), .lit (.int .u32 3144134277), .lit (.int .u32 1013904242), .lit (.int .u32 2773480762), .lit (.int .u32 1359893119), .lit (.int .u32 2600822924), .lit (.int .u32 528734635), .lit (.int .u32 1541459225)]
def laid_hibernacle_hash_rows {H : Type} : DataW H := .agg [.agg [.lit (.int .u8 0), .lit (.int .u8 1), .lit (.int .u8 2), .lit (.int .u8 3), .lit (.int .u8 4), .lit (.int .u8 5), .lit (.int .u8 6), .lit (.int .u8 7), .lit (.int .u8 8), .lit (.int .u8 9), .lit (.int .u8 10), .lit (.int .u8 11), .lit (.int .u8 12), .lit (.int .u8 13), .lit (.int .u8 14), .lit (.int .u8 15)], .agg [.lit (.int .u8 14), .lit (.int .u8 10), .lit (.int .u8 4), .lit (.int .u8 8), .lit (.int .u8 9), .lit (.int .u8 15), .lit (.int .u8 13), .lit (.int .u8 6), .lit (.int .u8 1), .lit (.int .u8 12), .lit (.int .u8 0), .lit (.int .u8 2), .lit (.int .u8 11), .lit (.int .u8 7), .lit (.int .u8 5), .lit (.int .u8 3)], .agg [.lit (.int .u8 11), .lit (.int .u8 8), .lit (.int .u8 12), .lit (.int .u8 0), .lit (.int .u8 5), .lit (.int .u8 2), .lit (.int .u8 15), .lit (.int .u8 13), .lit (.int .u8 10), .lit (.int .u8 14), .lit (.int .u8 3), .lit (.int .u8 6), .lit (.int .u8 7), .lit (.int .u8 1), .lit (.int .u8 9), .lit (.int .u8 4)], .agg [.lit (.int .u8 7), .lit (.int .u8 9), .lit (.int .u8 3), .lit (.int .u8 1), .lit (.int .u8 13), .lit (.int .u8 12), .lit (.int .u8 11), .lit (.int .u8 14), .lit (.int .u8 2), .lit (.int .u8 6), .lit (.int .u8 5), .lit (.int .u8 10), .lit (.int .u8 4), .lit (.int .u8 0), .lit (.int .u8 15), .lit (.int .u8 8)], .agg [.lit (.int .u8 9), .lit (.int .u8 0), .lit (.int .u8 5), .lit (.int .u8 7), .lit (.int .u8 2), .lit (.int .u8 4), .lit (.int .u8 10), .lit (.int .u8 15), .lit (.int .u8 14), .lit (.int .u8 1), .lit (.int .u8 11), .lit (.int .u8 12), .lit (.int .u8 6), .lit (.int .u8 8), .lit (.int .u8 3), .lit (.int .u8 13)], .agg [.lit (.int .u8 2), .lit (.int .u8 12), .lit (.int .u8 6), .lit (.int .u8 10), .lit (.int .u8 0), .lit (.int .u8 11), .lit (.int .u8 8), .lit (.int .u8 3), .lit (.int .u8 4), .lit (.int .u8 13), .lit (.int .u8 7), .lit (.int .u8 5), .lit (.int .u8 15), .lit (.int .u8 14), .lit (.int .u8 1), .lit (.int .u8 9)], .agg [.lit (.int .u8 12), .lit (.int .u8 5), .lit (.int .u8 1), .lit (.int .u8 15), .lit (.int .u8 14), .lit (.int .u8 13), .lit (.int .u8 4), .lit (.int .u8 10), .lit (.int .u8 0), .lit (.int .u8 7), .lit (.int .u8 6), .lit (.int .u8 3), .lit (.int .u8 9), .lit (.int .u8 2), .lit (.int .u8 8), .lit (.int .u8 11)], .agg [.lit (.int .u8 13), .lit (.int .u8 11), .lit (.int .u8 7), .lit (.int .u8 14), .lit (.int .u8 12), .lit (.int .u8 1), .lit (.int .u8 3), .lit (.int .u8 9), .lit (.int .u8 5), .lit (.int .u8 0), .lit (.int .u8 15), .lit (.int .u8 4), .lit (.int .u8 8), .lit (.int .u8 6), .lit (.int .u8 2), .lit (.int .u8 10)], .agg [.lit (.int .u8 6), .lit (.int .u8 15), .lit (.int .u8 14), .lit (.int .u8 9), .lit (.int .u8 11), .lit (.int .u8 3), .lit (.int .u8 0), .lit (.int .u8 8), .lit (.int .u8 12), .lit (.int .u8 2), .lit (.int .u8 13), .lit (.int .u8 7), .lit (.int .u8 1), .lit (.int .u8 4), .lit (.int .u8 10), .lit (.int .u8 5)], .agg [.lit (.int .u8 10), .lit (.int .u8 2), .lit (.int .u8 8), .lit (.int .u8 4), .lit (.int .u8 7), .lit (.int .u8 6), .lit (.int .u8 1), .lit (.int .u8 5), .lit (.int .u8 15), .lit (.int .u8 11), .lit (.int .u8 9), .lit (.int .u8 14), .lit (.int .u8 3), .lit (.int .u8 12), .lit (.int .u8 13), .lit (.int .u8 0)]]

/-- 'hibernaclelaw28.CacheViews': WHATEVER THE INPUT: true; the input reads as it did. -/
def cacheViewsSpec : ChangeSpec := { name := "cacheViews", fn := fun _ => fun
  | [d] => { results := [.lit (.bool true)], args := [d] }
  | _ => none }
def cacheViewsRow : OpenClaim := { program := "ytkokmnaicfdjaaagreatdoor", sum := "dd77d5915cedd8cb6ad0b95cd103c3b3763cb37ee629322b04affb665163f0af", func := "hibernacle/hibernaclelaw28.CacheViews", spec := "cacheViews", inPlace := ["internal/abi.NoEscape", "internal/bytealg.MakeNoZero"], unfollowed := true, recurses := true, named := ["hibernacle/hash.eight", "hibernacle/hash.rows"], apart := false, laid := [("hibernacle/hash.eight", laid_hibernacle_hash_eight), ("hibernacle/hash.rows", laid_hibernacle_hash_rows)] }
def CacheViewsSaid : Prop := cacheViewsRow.holds Tryz.pinned (OpenSpec.ofChange cacheViewsSpec)

/-- ITS FALSE NEIGHBOUR: 'it returns false'. Refute it at one input. -/
def cacheViewsWrong : ChangeSpec := { name := "cacheViews", fn := fun _ => fun
  | [d] => { results := [.lit (.bool false)], args := [d] }
  | _ => none }
def CacheViewsWrongFalsely : Prop := cacheViewsRow.holds Tryz.pinned (OpenSpec.ofChange cacheViewsWrong)

/-- 'hibernaclelaw28.CacheKeeps': WHATEVER THE INPUT: true; the input reads as it did. -/
def cacheKeepsSpec : ChangeSpec := { name := "cacheKeeps", fn := fun _ => fun
  | [d1, d2] => { results := [.lit (.bool true)], args := [d1, d2] }
  | _ => none }
def cacheKeepsRow : OpenClaim := { program := "ytkokmnaicfdjaaagreatdoor", sum := "dd77d5915cedd8cb6ad0b95cd103c3b3763cb37ee629322b04affb665163f0af", func := "hibernacle/hibernaclelaw28.CacheKeeps", spec := "cacheKeeps", inPlace := ["internal/abi.NoEscape", "internal/bytealg.MakeNoZero"], unfollowed := true, recurses := true, named := ["hibernacle/hash.eight", "hibernacle/hash.rows"], apart := false, laid := [("hibernacle/hash.eight", laid_hibernacle_hash_eight), ("hibernacle/hash.rows", laid_hibernacle_hash_rows)] }
def CacheKeepsSaid : Prop := cacheKeepsRow.holds Tryz.pinned (OpenSpec.ofChange cacheKeepsSpec)

/-- ITS FALSE NEIGHBOUR: 'it returns false'. Refute it at one input. -/
def cacheKeepsWrong : ChangeSpec := { name := "cacheKeeps", fn := fun _ => fun
  | [d1, d2] => { results := [.lit (.bool false)], args := [d1, d2] }
  | _ => none }
def CacheKeepsWrongFalsely : Prop := cacheKeepsRow.holds Tryz.pinned (OpenSpec.ofChange cacheKeepsWrong)

/-- 'hibernaclelaw28.CacheSyncs': WHATEVER THE INPUT: true; the input reads as it did. -/
def cacheSyncsSpec : ChangeSpec := { name := "cacheSyncs", fn := fun _ => fun
  | [d] => { results := [.lit (.bool true)], args := [d] }
  | _ => none }
def cacheSyncsRow : OpenClaim := { program := "ytkokmnaicfdjaaagreatdoor", sum := "dd77d5915cedd8cb6ad0b95cd103c3b3763cb37ee629322b04affb665163f0af", func := "hibernacle/hibernaclelaw28.CacheSyncs", spec := "cacheSyncs", inPlace := ["internal/abi.NoEscape", "internal/bytealg.MakeNoZero"], unfollowed := true, recurses := true, named := ["hibernacle/hash.eight", "hibernacle/hash.rows"], apart := false, laid := [("hibernacle/hash.eight", laid_hibernacle_hash_eight), ("hibernacle/hash.rows", laid_hibernacle_hash_rows)] }
def CacheSyncsSaid : Prop := cacheSyncsRow.holds Tryz.pinned (OpenSpec.ofChange cacheSyncsSpec)

/-- ITS FALSE NEIGHBOUR: 'it returns false'. Refute it at one input. -/
def cacheSyncsWrong : ChangeSpec := { name := "cacheSyncs", fn := fun _ => fun
  | [d] => { results := [.lit (.bool false)], args := [d] }
  | _ => none }
def CacheSyncsWrongFalsely : Prop := cacheSyncsRow.holds Tryz.pinned (OpenSpec.ofChange cacheSyncsWrong)

/-- 'hibernaclelaw28.CacheMay': WHATEVER THE INPUT: true; the input reads as it did. -/
def cacheMaySpec : ChangeSpec := { name := "cacheMay", fn := fun _ => fun
  | [d1, d2] => { results := [.lit (.bool true)], args := [d1, d2] }
  | _ => none }
def cacheMayRow : OpenClaim := { program := "ytkokmnaicfdjaaagreatdoor", sum := "dd77d5915cedd8cb6ad0b95cd103c3b3763cb37ee629322b04affb665163f0af", func := "hibernacle/hibernaclelaw28.CacheMay", spec := "cacheMay", inPlace := ["internal/abi.NoEscape", "internal/bytealg.MakeNoZero"], unfollowed := true, recurses := true, named := ["hibernacle/hash.eight", "hibernacle/hash.rows"], apart := false, laid := [("hibernacle/hash.eight", laid_hibernacle_hash_eight), ("hibernacle/hash.rows", laid_hibernacle_hash_rows)] }
def CacheMaySaid : Prop := cacheMayRow.holds Tryz.pinned (OpenSpec.ofChange cacheMaySpec)

/-- ITS FALSE NEIGHBOUR: 'it returns false'. Refute it at one input. -/
def cacheMayWrong : ChangeSpec := { name := "cacheMay", fn := fun _ => fun
  | [d1, d2] => { results := [.lit (.bool false)], args := [d1, d2] }
  | _ => none }
def CacheMayWrongFalsely : Prop := cacheMayRow.holds Tryz.pinned (OpenSpec.ofChange cacheMayWrong)

/-- 'hibernaclelaw28.CacheFiles': WHATEVER THE INPUT: true; the input reads as it did. -/
def cacheFilesSpec : ChangeSpec := { name := "cacheFiles", fn := fun _ => fun
  | [d1, d2, d3] => { results := [.lit (.bool true)], args := [d1, d2, d3] }
  | _ => none }
def cacheFilesRow : OpenClaim := { program := "ytkokmnaicfdjaaagreatdoor", sum := "dd77d5915cedd8cb6ad0b95cd103c3b3763cb37ee629322b04affb665163f0af", func := "hibernacle/hibernaclelaw28.CacheFiles", spec := "cacheFiles", inPlace := ["internal/abi.NoEscape", "internal/bytealg.MakeNoZero", "internal/bytealg.IndexByteString"], unfollowed := true, recurses := true, named := ["hibernacle/hash.eight", "hibernacle/hash.rows"], apart := false, laid := [("hibernacle/hash.eight", laid_hibernacle_hash_eight), ("hibernacle/hash.rows", laid_hibernacle_hash_rows)] }
def CacheFilesSaid : Prop := cacheFilesRow.holds Tryz.pinned (OpenSpec.ofChange cacheFilesSpec)

/-- ITS FALSE NEIGHBOUR: 'it returns false'. Refute it at one input. -/
def cacheFilesWrong : ChangeSpec := { name := "cacheFiles", fn := fun _ => fun
  | [d1, d2, d3] => { results := [.lit (.bool false)], args := [d1, d2, d3] }
  | _ => none }
def CacheFilesWrongFalsely : Prop := cacheFilesRow.holds Tryz.pinned (OpenSpec.ofChange cacheFilesWrong)

/- THE SECOND FORM. 'bulk': how many values and letters a reading holds, each counted each time it is reached (what is shared counts as often as it is met; a slice's spare places count too). A statement '..UptoSaid' is the law's where the arguments, and the package variables that the reading takes, are together of bulk at most 1048576: NARROWER than '..Said'. Prove '..Said' where nothing that the law and all that it calls make is longer than what came in: it says more and counts as full. Else prove '..UptoSaid'. A law counts once. -/
mutual
def uptoBulk {H : Type} : DataW H → Nat
  | .lit (.string bytes) => bytes.length + 1
  | .lit _ => 1
  | .nil => 1
  | .ptr d => uptoBulk d + 1
  | .slice elems spare => uptoBulkAll elems + uptoBulkAll spare + 1
  | .agg parts => uptoBulkAll parts + 1
  | .iface _ d => uptoBulk d + 1
  | .map entries => uptoBulkEntries entries + 1
  | .held _ => 1
def uptoBulkAll {H : Type} : List (DataW H) → Nat
  | [] => 0
  | d :: r => uptoBulk d + uptoBulkAll r
def uptoBulkEntries {H : Type} : List (Lit × DataW H) → Nat
  | [] => 0
  | x :: r => uptoBulkEntry x + uptoBulkEntries r
def uptoBulkEntry {H : Type} : Lit × DataW H → Nat
  | (.string bytes, d) => bytes.length + uptoBulk d + 1
  | (_, d) => uptoBulk d + 1
 end
def uptoSmall : (H : Type) → List (DataW H) → Bool := fun _ ds => decide (uptoBulkAll ds ≤ 1048576)
def OpenSpec.upto (s : _root_.Go.ChangeSpec) : _root_.Go.OpenSpec := { _root_.Go.OpenSpec.ofChange s with cond := some uptoSmall }

/-- 'hibernaclelaw28.CacheViews', WHERE WHAT IT READS IS OF BULK AT MOST 1048576: true; the input reads as it did. -/
def cacheViewsUptoRow : OpenClaim := { program := "ytkokmnaicfdjaaagreatdoor", sum := "dd77d5915cedd8cb6ad0b95cd103c3b3763cb37ee629322b04affb665163f0af", func := "hibernacle/hibernaclelaw28.CacheViews", spec := "cacheViews", inPlace := ["internal/abi.NoEscape", "internal/bytealg.MakeNoZero"], unfollowed := true, recurses := true, named := ["hibernacle/hash.eight", "hibernacle/hash.rows"], apart := false, laid := [("hibernacle/hash.eight", laid_hibernacle_hash_eight), ("hibernacle/hash.rows", laid_hibernacle_hash_rows)], narrowed := true }
def CacheViewsUptoSaid : Prop := cacheViewsUptoRow.holds Tryz.pinned (OpenSpec.upto cacheViewsSpec)

/-- 'hibernaclelaw28.CacheKeeps', WHERE WHAT IT READS IS OF BULK AT MOST 1048576: true; the input reads as it did. -/
def cacheKeepsUptoRow : OpenClaim := { program := "ytkokmnaicfdjaaagreatdoor", sum := "dd77d5915cedd8cb6ad0b95cd103c3b3763cb37ee629322b04affb665163f0af", func := "hibernacle/hibernaclelaw28.CacheKeeps", spec := "cacheKeeps", inPlace := ["internal/abi.NoEscape", "internal/bytealg.MakeNoZero"], unfollowed := true, recurses := true, named := ["hibernacle/hash.eight", "hibernacle/hash.rows"], apart := false, laid := [("hibernacle/hash.eight", laid_hibernacle_hash_eight), ("hibernacle/hash.rows", laid_hibernacle_hash_rows)], narrowed := true }
def CacheKeepsUptoSaid : Prop := cacheKeepsUptoRow.holds Tryz.pinned (OpenSpec.upto cacheKeepsSpec)

/-- 'hibernaclelaw28.CacheSyncs', WHERE WHAT IT READS IS OF BULK AT MOST 1048576: true; the input reads as it did. -/
def cacheSyncsUptoRow : OpenClaim := { program := "ytkokmnaicfdjaaagreatdoor", sum := "dd77d5915cedd8cb6ad0b95cd103c3b3763cb37ee629322b04affb665163f0af", func := "hibernacle/hibernaclelaw28.CacheSyncs", spec := "cacheSyncs", inPlace := ["internal/abi.NoEscape", "internal/bytealg.MakeNoZero"], unfollowed := true, recurses := true, named := ["hibernacle/hash.eight", "hibernacle/hash.rows"], apart := false, laid := [("hibernacle/hash.eight", laid_hibernacle_hash_eight), ("hibernacle/hash.rows", laid_hibernacle_hash_rows)], narrowed := true }
def CacheSyncsUptoSaid : Prop := cacheSyncsUptoRow.holds Tryz.pinned (OpenSpec.upto cacheSyncsSpec)

/-- 'hibernaclelaw28.CacheMay', WHERE WHAT IT READS IS OF BULK AT MOST 1048576: true; the input reads as it did. -/
def cacheMayUptoRow : OpenClaim := { program := "ytkokmnaicfdjaaagreatdoor", sum := "dd77d5915cedd8cb6ad0b95cd103c3b3763cb37ee629322b04affb665163f0af", func := "hibernacle/hibernaclelaw28.CacheMay", spec := "cacheMay", inPlace := ["internal/abi.NoEscape", "internal/bytealg.MakeNoZero"], unfollowed := true, recurses := true, named := ["hibernacle/hash.eight", "hibernacle/hash.rows"], apart := false, laid := [("hibernacle/hash.eight", laid_hibernacle_hash_eight), ("hibernacle/hash.rows", laid_hibernacle_hash_rows)], narrowed := true }
def CacheMayUptoSaid : Prop := cacheMayUptoRow.holds Tryz.pinned (OpenSpec.upto cacheMaySpec)

/-- 'hibernaclelaw28.CacheFiles', WHERE WHAT IT READS IS OF BULK AT MOST 1048576: true; the input reads as it did. -/
def cacheFilesUptoRow : OpenClaim := { program := "ytkokmnaicfdjaaagreatdoor", sum := "dd77d5915cedd8cb6ad0b95cd103c3b3763cb37ee629322b04affb665163f0af", func := "hibernacle/hibernaclelaw28.CacheFiles", spec := "cacheFiles", inPlace := ["internal/abi.NoEscape", "internal/bytealg.MakeNoZero", "internal/bytealg.IndexByteString"], unfollowed := true, recurses := true, named := ["hibernacle/hash.eight", "hibernacle/hash.rows"], apart := false, laid := [("hibernacle/hash.eight", laid_hibernacle_hash_eight), ("hibernacle/hash.rows", laid_hibernacle_hash_rows)], narrowed := true }
def CacheFilesUptoSaid : Prop := cacheFilesUptoRow.holds Tryz.pinned (OpenSpec.upto cacheFilesSpec)

end Rows
end Go.Proofs.YtkokmnaicfdjaaaGreatDoor
