/-
  DERIVED. GIVEN WITH THE SEED: THE CARDS: each row of YtkokmnaicfdjaaaGreatDoorRows.lean that lists a variable, with what it lists TIED to the program's text (the seventh form; the later family's looks); each row that meets fmt, with fmt's text TOLD by the authors' own Lean function (tested against real Go, not proved from fmt's source: count such statements apart). THE CARD IS WHAT COUNTS. Prove the row's statement (the work); the ties are given (YtkokmnaicfdjaaaGreatDoorTie.lean); close each card by the builder's one call (the guide's Derived/Test/ToyasCard.lean, 'card_holds'). Laid BY PROGRAM, IN A SANDBOX (cutbox-door.mjs). By AI agents, Wed Nov 11 2026. No macro, syntax, notation, axiom, sorry.
-/
import Derived.Test.YtkokmnaicfdjaaaGreatDoorRows
import GoSem.ClaimSeven
namespace Go.Proofs.YtkokmnaicfdjaaaGreatDoor
namespace Rows

/-- THE TIED CARD OF 'hibernaclelaw28.CacheViews'. -/
def cacheViewsCard : Claim7 := { stood := { row := cacheViewsRow, standIns := [], harness := (true, "cc185ea190416d4771431daf53bac9468ae262975f1ef0b5832c8ac05ac1ecb0"), looks := false }, kinds := [], alts := [], laidByText := true, laidKinds := [.data, .data], laidTests := true, laidLooks := .later }
def CacheViewsCardSaid : Prop := Claim7.holds Tryz.pinned (.plain (OpenSpec.ofChange cacheViewsSpec)) cacheViewsCard

/-- THE TIED CARD OF 'hibernaclelaw28.CacheKeeps'. -/
def cacheKeepsCard : Claim7 := { stood := { row := cacheKeepsRow, standIns := [], harness := (true, "cc185ea190416d4771431daf53bac9468ae262975f1ef0b5832c8ac05ac1ecb0"), looks := false }, kinds := [], alts := [], laidByText := true, laidKinds := [.data, .data], laidTests := true, laidLooks := .later }
def CacheKeepsCardSaid : Prop := Claim7.holds Tryz.pinned (.plain (OpenSpec.ofChange cacheKeepsSpec)) cacheKeepsCard

/-- THE TIED CARD OF 'hibernaclelaw28.CacheSyncs'. -/
def cacheSyncsCard : Claim7 := { stood := { row := cacheSyncsRow, standIns := [], harness := (true, "cc185ea190416d4771431daf53bac9468ae262975f1ef0b5832c8ac05ac1ecb0"), looks := false }, kinds := [], alts := [], laidByText := true, laidKinds := [.data, .data], laidTests := true, laidLooks := .later }
def CacheSyncsCardSaid : Prop := Claim7.holds Tryz.pinned (.plain (OpenSpec.ofChange cacheSyncsSpec)) cacheSyncsCard

/-- THE TIED CARD OF 'hibernaclelaw28.CacheMay'. -/
def cacheMayCard : Claim7 := { stood := { row := cacheMayRow, standIns := [], harness := (true, "cc185ea190416d4771431daf53bac9468ae262975f1ef0b5832c8ac05ac1ecb0"), looks := false }, kinds := [], alts := [], laidByText := true, laidKinds := [.data, .data], laidTests := true, laidLooks := .later }
def CacheMayCardSaid : Prop := Claim7.holds Tryz.pinned (.plain (OpenSpec.ofChange cacheMaySpec)) cacheMayCard

/-- THE TIED CARD OF 'hibernaclelaw28.CacheFiles'. -/
def cacheFilesCard : Claim7 := { stood := { row := cacheFilesRow, standIns := [], harness := (true, "cc185ea190416d4771431daf53bac9468ae262975f1ef0b5832c8ac05ac1ecb0"), looks := false }, kinds := [], alts := [], laidByText := true, laidKinds := [.data, .data], laidTests := true, laidLooks := .later }
def CacheFilesCardSaid : Prop := Claim7.holds Tryz.pinned (.plain (OpenSpec.ofChange cacheFilesSpec)) cacheFilesCard

/-- THE SECOND FORM's CARD OF 'hibernaclelaw28.CacheViews'. -/
def cacheViewsUptoCard : Claim7 := { stood := { row := cacheViewsUptoRow, standIns := [], harness := (true, "cc185ea190416d4771431daf53bac9468ae262975f1ef0b5832c8ac05ac1ecb0"), looks := false }, kinds := [], alts := [], laidByText := true, laidKinds := [.data, .data], laidTests := true, laidLooks := .later }
def CacheViewsUptoCardSaid : Prop := Claim7.holds Tryz.pinned (.plain (OpenSpec.upto cacheViewsSpec)) cacheViewsUptoCard

/-- THE SECOND FORM's CARD OF 'hibernaclelaw28.CacheKeeps'. -/
def cacheKeepsUptoCard : Claim7 := { stood := { row := cacheKeepsUptoRow, standIns := [], harness := (true, "cc185ea190416d4771431daf53bac9468ae262975f1ef0b5832c8ac05ac1ecb0"), looks := false }, kinds := [], alts := [], laidByText := true, laidKinds := [.data, .data], laidTests := true, laidLooks := .later }
def CacheKeepsUptoCardSaid : Prop := Claim7.holds Tryz.pinned (.plain (OpenSpec.upto cacheKeepsSpec)) cacheKeepsUptoCard

/-- THE SECOND FORM's CARD OF 'hibernaclelaw28.CacheSyncs'. -/
def cacheSyncsUptoCard : Claim7 := { stood := { row := cacheSyncsUptoRow, standIns := [], harness := (true, "cc185ea190416d4771431daf53bac9468ae262975f1ef0b5832c8ac05ac1ecb0"), looks := false }, kinds := [], alts := [], laidByText := true, laidKinds := [.data, .data], laidTests := true, laidLooks := .later }
def CacheSyncsUptoCardSaid : Prop := Claim7.holds Tryz.pinned (.plain (OpenSpec.upto cacheSyncsSpec)) cacheSyncsUptoCard

/-- THE SECOND FORM's CARD OF 'hibernaclelaw28.CacheMay'. -/
def cacheMayUptoCard : Claim7 := { stood := { row := cacheMayUptoRow, standIns := [], harness := (true, "cc185ea190416d4771431daf53bac9468ae262975f1ef0b5832c8ac05ac1ecb0"), looks := false }, kinds := [], alts := [], laidByText := true, laidKinds := [.data, .data], laidTests := true, laidLooks := .later }
def CacheMayUptoCardSaid : Prop := Claim7.holds Tryz.pinned (.plain (OpenSpec.upto cacheMaySpec)) cacheMayUptoCard

/-- THE SECOND FORM's CARD OF 'hibernaclelaw28.CacheFiles'. -/
def cacheFilesUptoCard : Claim7 := { stood := { row := cacheFilesUptoRow, standIns := [], harness := (true, "cc185ea190416d4771431daf53bac9468ae262975f1ef0b5832c8ac05ac1ecb0"), looks := false }, kinds := [], alts := [], laidByText := true, laidKinds := [.data, .data], laidTests := true, laidLooks := .later }
def CacheFilesUptoCardSaid : Prop := Claim7.holds Tryz.pinned (.plain (OpenSpec.upto cacheFilesSpec)) cacheFilesUptoCard
end Rows
end Go.Proofs.YtkokmnaicfdjaaaGreatDoor
