/-
  DERIVED. GIVEN WITH THE SEED: THE CARDS: each row of YthmgcnaoionmoaaDoorRows.lean that lists a variable, with what it lists TIED to the program's text (the seventh form; the later family's looks); each row that meets fmt, with fmt's text TOLD by the authors' own Lean function (tested against real Go, not proved from fmt's source: count such statements apart). THE CARD IS WHAT COUNTS. Prove the row's statement (the work); the ties are given (YthmgcnaoionmoaaDoorTie.lean); close each card by the builder's one call (the guide's Derived/Test/ToyasCard.lean, 'card_holds'). Laid BY PROGRAM, IN A SANDBOX (cutbox-door.mjs). By AI agents, Wed Nov 11 2026. No macro, syntax, notation, axiom, sorry.
-/
import Derived.Test.YthmgcnaoionmoaaDoorRows
import GoSem.ClaimSeven
namespace Go.Proofs.YthmgcnaoionmoaaDoor
namespace Rows

/-- THE TIED CARD OF 'glacislaw03.UrlpNames'. -/
def urlpNamesCard : Claim7 := { stood := { row := urlpNamesRow, standIns := [], harness := (true, "a5cdb46439b70ecb27c8f5c82aaf7c0167401f07b9e83c8579d211d837899dc7"), looks := false }, kinds := [], alts := [], laidByText := true, laidKinds := [.data, .data, .data, .data, .pinned], laidTests := true, laidLooks := .later }
def UrlpNamesCardSaid : Prop := Claim7.holds Tryd.pinned (.plain (OpenSpec.ofChange urlpNamesSpec)) urlpNamesCard

/-- THE TIED CARD OF 'glacislaw03.UrlpReads'. -/
def urlpReadsCard : Claim7 := { stood := { row := urlpReadsRow, standIns := [], harness := (true, "a5cdb46439b70ecb27c8f5c82aaf7c0167401f07b9e83c8579d211d837899dc7"), looks := false }, kinds := [], alts := [], laidByText := true, laidKinds := [.data, .data, .data, .data, .pinned], laidTests := true, laidLooks := .later }
def UrlpReadsCardSaid : Prop := Claim7.holds Tryd.pinned (.plain (OpenSpec.ofChange urlpReadsSpec)) urlpReadsCard

/-- THE TIED CARD OF 'glacislaw03.UrlpTells'. -/
def urlpTellsCard : Claim7 := { stood := { row := urlpTellsRow, standIns := [], harness := (true, "a5cdb46439b70ecb27c8f5c82aaf7c0167401f07b9e83c8579d211d837899dc7"), looks := false }, kinds := [], alts := [], laidByText := true, laidKinds := [.data, .data, .data, .data, .pinned], laidTests := true, laidLooks := .later }
def UrlpTellsCardSaid : Prop := Claim7.holds Tryd.pinned (.plain (OpenSpec.ofChange urlpTellsSpec)) urlpTellsCard

/-- THE TIED CARD OF 'glacislaw03.UrlpPaths'. -/
def urlpPathsCard : Claim7 := { stood := { row := urlpPathsRow, standIns := [], harness := (true, "a5cdb46439b70ecb27c8f5c82aaf7c0167401f07b9e83c8579d211d837899dc7"), looks := false }, kinds := [], alts := [], laidByText := true, laidKinds := [.data, .data, .data, .data, .pinned], laidTests := true, laidLooks := .later }
def UrlpPathsCardSaid : Prop := Claim7.holds Tryd.pinned (.plain (OpenSpec.ofChange urlpPathsSpec)) urlpPathsCard

/-- THE TIED CARD OF 'glacislaw03.UrlpEnds'. -/
def urlpEndsCard : Claim7 := { stood := { row := urlpEndsRow, standIns := [], harness := (true, "a5cdb46439b70ecb27c8f5c82aaf7c0167401f07b9e83c8579d211d837899dc7"), looks := false }, kinds := [], alts := [], laidByText := true, laidKinds := [.data, .data, .data, .data, .pinned], laidTests := true, laidLooks := .later }
def UrlpEndsCardSaid : Prop := Claim7.holds Tryd.pinned (.plain (OpenSpec.ofChange urlpEndsSpec)) urlpEndsCard

/-- THE TIED CARD OF 'glacislaw03.UrlpSchemes'. -/
def urlpSchemesCard : Claim7 := { stood := { row := urlpSchemesRow, standIns := [], harness := (true, "a5cdb46439b70ecb27c8f5c82aaf7c0167401f07b9e83c8579d211d837899dc7"), looks := false }, kinds := [], alts := [], laidByText := true, laidKinds := [.data, .data, .data, .data, .pinned], laidTests := true, laidLooks := .later }
def UrlpSchemesCardSaid : Prop := Claim7.holds Tryd.pinned (.plain (OpenSpec.ofChange urlpSchemesSpec)) urlpSchemesCard

/-- THE TIED CARD OF 'glacislaw03.UrlpBlobs'. -/
def urlpBlobsCard : Claim7 := { stood := { row := urlpBlobsRow, standIns := [], harness := (true, "a5cdb46439b70ecb27c8f5c82aaf7c0167401f07b9e83c8579d211d837899dc7"), looks := false }, kinds := [], alts := [], laidByText := true, laidKinds := [.data, .data, .data, .data, .pinned], laidTests := true, laidLooks := .later }
def UrlpBlobsCardSaid : Prop := Claim7.holds Tryd.pinned (.plain (OpenSpec.ofChange urlpBlobsSpec)) urlpBlobsCard

/-- THE TIED CARD OF 'glacislaw03.UrlpQueries'. -/
def urlpQueriesCard : Claim7 := { stood := { row := urlpQueriesRow, standIns := [], harness := (true, "a5cdb46439b70ecb27c8f5c82aaf7c0167401f07b9e83c8579d211d837899dc7"), looks := false }, kinds := [], alts := [], laidByText := true, laidKinds := [.data, .data, .data, .data, .pinned], laidTests := true, laidLooks := .later }
def UrlpQueriesCardSaid : Prop := Claim7.holds Tryd.pinned (.plain (OpenSpec.ofChange urlpQueriesSpec)) urlpQueriesCard

/-- THE TIED CARD OF 'glacislaw04.OriginHolds'. -/
def originHoldsCard : Claim7 := { stood := { row := originHoldsRow, standIns := [], harness := (true, "a5cdb46439b70ecb27c8f5c82aaf7c0167401f07b9e83c8579d211d837899dc7"), looks := false }, kinds := [], alts := [], laidByText := true, laidKinds := [.data, .data, .data, .data, .pinned], laidTests := true, laidLooks := .later }
def OriginHoldsCardSaid : Prop := Claim7.holds Tryd.pinned (.plain (OpenSpec.ofChange originHoldsSpec)) originHoldsCard

/-- THE TIED CARD OF 'glacislaw04.OriginClasses'. -/
def originClassesCard : Claim7 := { stood := { row := originClassesRow, standIns := [], harness := (true, "a5cdb46439b70ecb27c8f5c82aaf7c0167401f07b9e83c8579d211d837899dc7"), looks := false }, kinds := [], alts := [], laidByText := true, laidKinds := [.data, .data, .data, .data, .pinned], laidTests := true, laidLooks := .later }
def OriginClassesCardSaid : Prop := Claim7.holds Tryd.pinned (.plain (OpenSpec.ofChange originClassesSpec)) originClassesCard

/-- THE TIED CARD OF 'glacislaw04.OriginTexts'. -/
def originTextsCard : Claim7 := { stood := { row := originTextsRow, standIns := [], harness := (true, "a5cdb46439b70ecb27c8f5c82aaf7c0167401f07b9e83c8579d211d837899dc7"), looks := false }, kinds := [], alts := [], laidByText := true, laidKinds := [.data, .data, .data, .data, .pinned], laidTests := true, laidLooks := .later }
def OriginTextsCardSaid : Prop := Claim7.holds Tryd.pinned (.plain (OpenSpec.ofChange originTextsSpec)) originTextsCard

/-- THE TIED CARD OF 'glacislaw04.OriginPaths'. -/
def originPathsCard : Claim7 := { stood := { row := originPathsRow, standIns := [], harness := (true, "a5cdb46439b70ecb27c8f5c82aaf7c0167401f07b9e83c8579d211d837899dc7"), looks := false }, kinds := [], alts := [], laidByText := true, laidKinds := [.data, .data, .data, .data, .pinned], laidTests := true, laidLooks := .later }
def OriginPathsCardSaid : Prop := Claim7.holds Tryd.pinned (.plain (OpenSpec.ofChange originPathsSpec)) originPathsCard

/-- THE TIED CARD OF 'glacislaw04.OriginBlobs'. -/
def originBlobsCard : Claim7 := { stood := { row := originBlobsRow, standIns := [], harness := (true, "a5cdb46439b70ecb27c8f5c82aaf7c0167401f07b9e83c8579d211d837899dc7"), looks := false }, kinds := [], alts := [], laidByText := true, laidKinds := [.data, .data, .data, .data, .pinned], laidTests := true, laidLooks := .later }
def OriginBlobsCardSaid : Prop := Claim7.holds Tryd.pinned (.plain (OpenSpec.ofChange originBlobsSpec)) originBlobsCard

/-- THE TIED CARD OF 'glacislaw17.GroupsNames'. -/
def groupsNamesCard : Claim7 := { stood := { row := groupsNamesRow, standIns := [], harness := (true, "a5cdb46439b70ecb27c8f5c82aaf7c0167401f07b9e83c8579d211d837899dc7"), looks := false }, kinds := [], alts := [], laidByText := true, laidKinds := [.data, .data, .data, .data, .pinned], laidTests := true, laidLooks := .later }
def GroupsNamesCardSaid : Prop := Claim7.holds Tryd.pinned (.plain (OpenSpec.ofChange groupsNamesSpec)) groupsNamesCard

/-- THE TIED CARD OF 'glacislaw17.GroupsKeys'. -/
def groupsKeysCard : Claim7 := { stood := { row := groupsKeysRow, standIns := [], harness := (true, "a5cdb46439b70ecb27c8f5c82aaf7c0167401f07b9e83c8579d211d837899dc7"), looks := false }, kinds := [], alts := [], laidByText := true, laidKinds := [.data, .data, .data, .data, .pinned], laidTests := true, laidLooks := .later }
def GroupsKeysCardSaid : Prop := Claim7.holds Tryd.pinned (.plain (OpenSpec.ofChange groupsKeysSpec)) groupsKeysCard

/-- THE TIED CARD OF 'glacislaw17.GroupsOrigins'. -/
def groupsOriginsCard : Claim7 := { stood := { row := groupsOriginsRow, standIns := [], harness := (true, "a5cdb46439b70ecb27c8f5c82aaf7c0167401f07b9e83c8579d211d837899dc7"), looks := false }, kinds := [], alts := [], laidByText := true, laidKinds := [.data, .data, .data, .data, .pinned], laidTests := true, laidLooks := .later }
def GroupsOriginsCardSaid : Prop := Claim7.holds Tryd.pinned (.plain (OpenSpec.ofChange groupsOriginsSpec)) groupsOriginsCard

/-- THE SECOND FORM's CARD OF 'glacislaw03.UrlpNames'. -/
def urlpNamesUptoCard : Claim7 := { stood := { row := urlpNamesUptoRow, standIns := [], harness := (true, "a5cdb46439b70ecb27c8f5c82aaf7c0167401f07b9e83c8579d211d837899dc7"), looks := false }, kinds := [], alts := [], laidByText := true, laidKinds := [.data, .data, .data, .data, .pinned], laidTests := true, laidLooks := .later }
def UrlpNamesUptoCardSaid : Prop := Claim7.holds Tryd.pinned (.plain (OpenSpec.upto urlpNamesSpec)) urlpNamesUptoCard

/-- THE SECOND FORM's CARD OF 'glacislaw03.UrlpReads'. -/
def urlpReadsUptoCard : Claim7 := { stood := { row := urlpReadsUptoRow, standIns := [], harness := (true, "a5cdb46439b70ecb27c8f5c82aaf7c0167401f07b9e83c8579d211d837899dc7"), looks := false }, kinds := [], alts := [], laidByText := true, laidKinds := [.data, .data, .data, .data, .pinned], laidTests := true, laidLooks := .later }
def UrlpReadsUptoCardSaid : Prop := Claim7.holds Tryd.pinned (.plain (OpenSpec.upto urlpReadsSpec)) urlpReadsUptoCard

/-- THE SECOND FORM's CARD OF 'glacislaw03.UrlpTells'. -/
def urlpTellsUptoCard : Claim7 := { stood := { row := urlpTellsUptoRow, standIns := [], harness := (true, "a5cdb46439b70ecb27c8f5c82aaf7c0167401f07b9e83c8579d211d837899dc7"), looks := false }, kinds := [], alts := [], laidByText := true, laidKinds := [.data, .data, .data, .data, .pinned], laidTests := true, laidLooks := .later }
def UrlpTellsUptoCardSaid : Prop := Claim7.holds Tryd.pinned (.plain (OpenSpec.upto urlpTellsSpec)) urlpTellsUptoCard

/-- THE SECOND FORM's CARD OF 'glacislaw03.UrlpPaths'. -/
def urlpPathsUptoCard : Claim7 := { stood := { row := urlpPathsUptoRow, standIns := [], harness := (true, "a5cdb46439b70ecb27c8f5c82aaf7c0167401f07b9e83c8579d211d837899dc7"), looks := false }, kinds := [], alts := [], laidByText := true, laidKinds := [.data, .data, .data, .data, .pinned], laidTests := true, laidLooks := .later }
def UrlpPathsUptoCardSaid : Prop := Claim7.holds Tryd.pinned (.plain (OpenSpec.upto urlpPathsSpec)) urlpPathsUptoCard

/-- THE SECOND FORM's CARD OF 'glacislaw03.UrlpEnds'. -/
def urlpEndsUptoCard : Claim7 := { stood := { row := urlpEndsUptoRow, standIns := [], harness := (true, "a5cdb46439b70ecb27c8f5c82aaf7c0167401f07b9e83c8579d211d837899dc7"), looks := false }, kinds := [], alts := [], laidByText := true, laidKinds := [.data, .data, .data, .data, .pinned], laidTests := true, laidLooks := .later }
def UrlpEndsUptoCardSaid : Prop := Claim7.holds Tryd.pinned (.plain (OpenSpec.upto urlpEndsSpec)) urlpEndsUptoCard

/-- THE SECOND FORM's CARD OF 'glacislaw03.UrlpSchemes'. -/
def urlpSchemesUptoCard : Claim7 := { stood := { row := urlpSchemesUptoRow, standIns := [], harness := (true, "a5cdb46439b70ecb27c8f5c82aaf7c0167401f07b9e83c8579d211d837899dc7"), looks := false }, kinds := [], alts := [], laidByText := true, laidKinds := [.data, .data, .data, .data, .pinned], laidTests := true, laidLooks := .later }
def UrlpSchemesUptoCardSaid : Prop := Claim7.holds Tryd.pinned (.plain (OpenSpec.upto urlpSchemesSpec)) urlpSchemesUptoCard

/-- THE SECOND FORM's CARD OF 'glacislaw03.UrlpBlobs'. -/
def urlpBlobsUptoCard : Claim7 := { stood := { row := urlpBlobsUptoRow, standIns := [], harness := (true, "a5cdb46439b70ecb27c8f5c82aaf7c0167401f07b9e83c8579d211d837899dc7"), looks := false }, kinds := [], alts := [], laidByText := true, laidKinds := [.data, .data, .data, .data, .pinned], laidTests := true, laidLooks := .later }
def UrlpBlobsUptoCardSaid : Prop := Claim7.holds Tryd.pinned (.plain (OpenSpec.upto urlpBlobsSpec)) urlpBlobsUptoCard

/-- THE SECOND FORM's CARD OF 'glacislaw03.UrlpQueries'. -/
def urlpQueriesUptoCard : Claim7 := { stood := { row := urlpQueriesUptoRow, standIns := [], harness := (true, "a5cdb46439b70ecb27c8f5c82aaf7c0167401f07b9e83c8579d211d837899dc7"), looks := false }, kinds := [], alts := [], laidByText := true, laidKinds := [.data, .data, .data, .data, .pinned], laidTests := true, laidLooks := .later }
def UrlpQueriesUptoCardSaid : Prop := Claim7.holds Tryd.pinned (.plain (OpenSpec.upto urlpQueriesSpec)) urlpQueriesUptoCard

/-- THE SECOND FORM's CARD OF 'glacislaw04.OriginHolds'. -/
def originHoldsUptoCard : Claim7 := { stood := { row := originHoldsUptoRow, standIns := [], harness := (true, "a5cdb46439b70ecb27c8f5c82aaf7c0167401f07b9e83c8579d211d837899dc7"), looks := false }, kinds := [], alts := [], laidByText := true, laidKinds := [.data, .data, .data, .data, .pinned], laidTests := true, laidLooks := .later }
def OriginHoldsUptoCardSaid : Prop := Claim7.holds Tryd.pinned (.plain (OpenSpec.upto originHoldsSpec)) originHoldsUptoCard

/-- THE SECOND FORM's CARD OF 'glacislaw04.OriginClasses'. -/
def originClassesUptoCard : Claim7 := { stood := { row := originClassesUptoRow, standIns := [], harness := (true, "a5cdb46439b70ecb27c8f5c82aaf7c0167401f07b9e83c8579d211d837899dc7"), looks := false }, kinds := [], alts := [], laidByText := true, laidKinds := [.data, .data, .data, .data, .pinned], laidTests := true, laidLooks := .later }
def OriginClassesUptoCardSaid : Prop := Claim7.holds Tryd.pinned (.plain (OpenSpec.upto originClassesSpec)) originClassesUptoCard

/-- THE SECOND FORM's CARD OF 'glacislaw04.OriginTexts'. -/
def originTextsUptoCard : Claim7 := { stood := { row := originTextsUptoRow, standIns := [], harness := (true, "a5cdb46439b70ecb27c8f5c82aaf7c0167401f07b9e83c8579d211d837899dc7"), looks := false }, kinds := [], alts := [], laidByText := true, laidKinds := [.data, .data, .data, .data, .pinned], laidTests := true, laidLooks := .later }
def OriginTextsUptoCardSaid : Prop := Claim7.holds Tryd.pinned (.plain (OpenSpec.upto originTextsSpec)) originTextsUptoCard

/-- THE SECOND FORM's CARD OF 'glacislaw04.OriginPaths'. -/
def originPathsUptoCard : Claim7 := { stood := { row := originPathsUptoRow, standIns := [], harness := (true, "a5cdb46439b70ecb27c8f5c82aaf7c0167401f07b9e83c8579d211d837899dc7"), looks := false }, kinds := [], alts := [], laidByText := true, laidKinds := [.data, .data, .data, .data, .pinned], laidTests := true, laidLooks := .later }
def OriginPathsUptoCardSaid : Prop := Claim7.holds Tryd.pinned (.plain (OpenSpec.upto originPathsSpec)) originPathsUptoCard

/-- THE SECOND FORM's CARD OF 'glacislaw04.OriginBlobs'. -/
def originBlobsUptoCard : Claim7 := { stood := { row := originBlobsUptoRow, standIns := [], harness := (true, "a5cdb46439b70ecb27c8f5c82aaf7c0167401f07b9e83c8579d211d837899dc7"), looks := false }, kinds := [], alts := [], laidByText := true, laidKinds := [.data, .data, .data, .data, .pinned], laidTests := true, laidLooks := .later }
def OriginBlobsUptoCardSaid : Prop := Claim7.holds Tryd.pinned (.plain (OpenSpec.upto originBlobsSpec)) originBlobsUptoCard

/-- THE SECOND FORM's CARD OF 'glacislaw17.GroupsNames'. -/
def groupsNamesUptoCard : Claim7 := { stood := { row := groupsNamesUptoRow, standIns := [], harness := (true, "a5cdb46439b70ecb27c8f5c82aaf7c0167401f07b9e83c8579d211d837899dc7"), looks := false }, kinds := [], alts := [], laidByText := true, laidKinds := [.data, .data, .data, .data, .pinned], laidTests := true, laidLooks := .later }
def GroupsNamesUptoCardSaid : Prop := Claim7.holds Tryd.pinned (.plain (OpenSpec.upto groupsNamesSpec)) groupsNamesUptoCard

/-- THE SECOND FORM's CARD OF 'glacislaw17.GroupsKeys'. -/
def groupsKeysUptoCard : Claim7 := { stood := { row := groupsKeysUptoRow, standIns := [], harness := (true, "a5cdb46439b70ecb27c8f5c82aaf7c0167401f07b9e83c8579d211d837899dc7"), looks := false }, kinds := [], alts := [], laidByText := true, laidKinds := [.data, .data, .data, .data, .pinned], laidTests := true, laidLooks := .later }
def GroupsKeysUptoCardSaid : Prop := Claim7.holds Tryd.pinned (.plain (OpenSpec.upto groupsKeysSpec)) groupsKeysUptoCard

/-- THE SECOND FORM's CARD OF 'glacislaw17.GroupsOrigins'. -/
def groupsOriginsUptoCard : Claim7 := { stood := { row := groupsOriginsUptoRow, standIns := [], harness := (true, "a5cdb46439b70ecb27c8f5c82aaf7c0167401f07b9e83c8579d211d837899dc7"), looks := false }, kinds := [], alts := [], laidByText := true, laidKinds := [.data, .data, .data, .data, .pinned], laidTests := true, laidLooks := .later }
def GroupsOriginsUptoCardSaid : Prop := Claim7.holds Tryd.pinned (.plain (OpenSpec.upto groupsOriginsSpec)) groupsOriginsUptoCard
end Rows
end Go.Proofs.YthmgcnaoionmoaaDoor
