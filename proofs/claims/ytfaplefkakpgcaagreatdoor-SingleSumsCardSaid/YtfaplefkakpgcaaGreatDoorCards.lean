/-
  DERIVED. GIVEN WITH THE SEED: THE CARDS: each row of YtfaplefkakpgcaaGreatDoorRows.lean that lists a variable, with what it lists TIED to the program's text (the seventh form; the later family's looks); each row that meets fmt, with fmt's text TOLD by the authors' own Lean function (tested against real Go, not proved from fmt's source: count such statements apart). THE CARD IS WHAT COUNTS. Prove the row's statement (the work); the ties are given (YtfaplefkakpgcaaGreatDoorTie.lean); close each card by the builder's one call (the guide's Derived/Test/ToyasCard.lean, 'card_holds'). Laid BY PROGRAM, IN A SANDBOX (cutbox-door.mjs). By AI agents, Wed Nov 11 2026. No macro, syntax, notation, axiom, sorry.
-/
import Derived.Test.YtfaplefkakpgcaaGreatDoorRows
import GoSem.ClaimSeven
namespace Go.Proofs.YtfaplefkakpgcaaGreatDoor
namespace Rows

/-- THE TIED CARD OF 'hibernaclelaw56.SingleFiles'. -/
def singleFilesCard : Claim7 := { stood := { row := singleFilesRow, standIns := [], harness := (true, "b813af415a7ced93fd6036a8cc7a69b6d2396f3cd35a26011d7f7c05126a80ae"), looks := true }, kinds := [], alts := [], laidByText := true, laidKinds := [.data, .data, .data, .sentinel, .sentinel], laidTests := true, laidLooks := .later }
def SingleFilesCardSaid : Prop := Claim7.holds Tryz.pinned (.plain (OpenSpec.ofChange singleFilesSpec)) singleFilesCard

/-- THE TIED CARD OF 'hibernaclelaw56.SingleProcs'. -/
def singleProcsCard : Claim7 := { stood := { row := singleProcsRow, standIns := [], harness := (true, "b813af415a7ced93fd6036a8cc7a69b6d2396f3cd35a26011d7f7c05126a80ae"), looks := true }, kinds := [], alts := [], laidByText := true, laidKinds := [.data, .data, .data, .sentinel, .sentinel], laidTests := true, laidLooks := .later }
def SingleProcsCardSaid : Prop := Claim7.holds Tryz.pinned (.plain (OpenSpec.ofChange singleProcsSpec)) singleProcsCard

/-- THE TIED CARD OF 'hibernaclelaw56.SingleApart'. -/
def singleApartCard : Claim7 := { stood := { row := singleApartRow, standIns := [], harness := (true, "b813af415a7ced93fd6036a8cc7a69b6d2396f3cd35a26011d7f7c05126a80ae"), looks := true }, kinds := [], alts := [], laidByText := true, laidKinds := [.data, .data, .data, .sentinel, .sentinel], laidTests := true, laidLooks := .later }
def SingleApartCardSaid : Prop := Claim7.holds Tryz.pinned (.plain (OpenSpec.ofChange singleApartSpec)) singleApartCard

/-- THE TIED CARD OF 'hibernaclelaw56.SingleKeeps'. -/
def singleKeepsCard : Claim7 := { stood := { row := singleKeepsRow, standIns := [], harness := (true, "b813af415a7ced93fd6036a8cc7a69b6d2396f3cd35a26011d7f7c05126a80ae"), looks := true }, kinds := [], alts := [], laidByText := true, laidKinds := [.data, .data, .data, .sentinel, .sentinel], laidTests := true, laidLooks := .later }
def SingleKeepsCardSaid : Prop := Claim7.holds Tryz.pinned (.plain (OpenSpec.ofChange singleKeepsSpec)) singleKeepsCard

/-- THE TIED CARD OF 'hibernaclelaw56.SinglePaths'. -/
def singlePathsCard : Claim7 := { stood := { row := singlePathsRow, standIns := [], harness := (true, "b813af415a7ced93fd6036a8cc7a69b6d2396f3cd35a26011d7f7c05126a80ae"), looks := true }, kinds := [], alts := [], laidByText := true, laidKinds := [.data, .data, .data, .sentinel, .sentinel], laidTests := true, laidLooks := .later }
def SinglePathsCardSaid : Prop := Claim7.holds Tryz.pinned (.plain (OpenSpec.ofChange singlePathsSpec)) singlePathsCard

/-- THE TIED CARD OF 'hibernaclelaw56.SingleSums'. -/
def singleSumsCard : Claim7 := { stood := { row := singleSumsRow, standIns := [], harness := (true, "b813af415a7ced93fd6036a8cc7a69b6d2396f3cd35a26011d7f7c05126a80ae"), looks := true }, kinds := [], alts := [], laidByText := true, laidKinds := [.data, .data, .data, .data, .data, .sentinel, .sentinel], laidTests := true, laidLooks := .later }
def SingleSumsCardSaid : Prop := Claim7.holds Tryz.pinned (.plain (OpenSpec.ofChange singleSumsSpec)) singleSumsCard

/-- THE SECOND FORM's CARD OF 'hibernaclelaw56.SingleFiles'. -/
def singleFilesUptoCard : Claim7 := { stood := { row := singleFilesUptoRow, standIns := [], harness := (true, "b813af415a7ced93fd6036a8cc7a69b6d2396f3cd35a26011d7f7c05126a80ae"), looks := true }, kinds := [], alts := [], laidByText := true, laidKinds := [.data, .data, .data, .sentinel, .sentinel], laidTests := true, laidLooks := .later }
def SingleFilesUptoCardSaid : Prop := Claim7.holds Tryz.pinned (.plain (OpenSpec.upto singleFilesSpec)) singleFilesUptoCard

/-- THE SECOND FORM's CARD OF 'hibernaclelaw56.SingleProcs'. -/
def singleProcsUptoCard : Claim7 := { stood := { row := singleProcsUptoRow, standIns := [], harness := (true, "b813af415a7ced93fd6036a8cc7a69b6d2396f3cd35a26011d7f7c05126a80ae"), looks := true }, kinds := [], alts := [], laidByText := true, laidKinds := [.data, .data, .data, .sentinel, .sentinel], laidTests := true, laidLooks := .later }
def SingleProcsUptoCardSaid : Prop := Claim7.holds Tryz.pinned (.plain (OpenSpec.upto singleProcsSpec)) singleProcsUptoCard

/-- THE SECOND FORM's CARD OF 'hibernaclelaw56.SingleApart'. -/
def singleApartUptoCard : Claim7 := { stood := { row := singleApartUptoRow, standIns := [], harness := (true, "b813af415a7ced93fd6036a8cc7a69b6d2396f3cd35a26011d7f7c05126a80ae"), looks := true }, kinds := [], alts := [], laidByText := true, laidKinds := [.data, .data, .data, .sentinel, .sentinel], laidTests := true, laidLooks := .later }
def SingleApartUptoCardSaid : Prop := Claim7.holds Tryz.pinned (.plain (OpenSpec.upto singleApartSpec)) singleApartUptoCard

/-- THE SECOND FORM's CARD OF 'hibernaclelaw56.SingleKeeps'. -/
def singleKeepsUptoCard : Claim7 := { stood := { row := singleKeepsUptoRow, standIns := [], harness := (true, "b813af415a7ced93fd6036a8cc7a69b6d2396f3cd35a26011d7f7c05126a80ae"), looks := true }, kinds := [], alts := [], laidByText := true, laidKinds := [.data, .data, .data, .sentinel, .sentinel], laidTests := true, laidLooks := .later }
def SingleKeepsUptoCardSaid : Prop := Claim7.holds Tryz.pinned (.plain (OpenSpec.upto singleKeepsSpec)) singleKeepsUptoCard

/-- THE SECOND FORM's CARD OF 'hibernaclelaw56.SinglePaths'. -/
def singlePathsUptoCard : Claim7 := { stood := { row := singlePathsUptoRow, standIns := [], harness := (true, "b813af415a7ced93fd6036a8cc7a69b6d2396f3cd35a26011d7f7c05126a80ae"), looks := true }, kinds := [], alts := [], laidByText := true, laidKinds := [.data, .data, .data, .sentinel, .sentinel], laidTests := true, laidLooks := .later }
def SinglePathsUptoCardSaid : Prop := Claim7.holds Tryz.pinned (.plain (OpenSpec.upto singlePathsSpec)) singlePathsUptoCard

/-- THE SECOND FORM's CARD OF 'hibernaclelaw56.SingleSums'. -/
def singleSumsUptoCard : Claim7 := { stood := { row := singleSumsUptoRow, standIns := [], harness := (true, "b813af415a7ced93fd6036a8cc7a69b6d2396f3cd35a26011d7f7c05126a80ae"), looks := true }, kinds := [], alts := [], laidByText := true, laidKinds := [.data, .data, .data, .data, .data, .sentinel, .sentinel], laidTests := true, laidLooks := .later }
def SingleSumsUptoCardSaid : Prop := Claim7.holds Tryz.pinned (.plain (OpenSpec.upto singleSumsSpec)) singleSumsUptoCard
end Rows
end Go.Proofs.YtfaplefkakpgcaaGreatDoor
