/-
  DERIVED. GIVEN WITH THE SEED: THE CARDS: each row of YtjghhhoebdlciaaDoorRows.lean that lists a variable, with what it lists TIED to the program's text (the seventh form; the later family's looks); each row that meets fmt, with fmt's text TOLD by the authors' own Lean function (tested against real Go, not proved from fmt's source: count such statements apart). THE CARD IS WHAT COUNTS. Prove the row's statement (the work); the ties are given (YtjghhhoebdlciaaDoorTie.lean); close each card by the builder's one call (the guide's Derived/Test/ToyasCard.lean, 'card_holds'). Laid BY PROGRAM, IN A SANDBOX (cutbox-door.mjs). By AI agents, Wed Nov 11 2026. No macro, syntax, notation, axiom, sorry.
-/
import Derived.Test.YtjghhhoebdlciaaDoorRows
import GoSem.ClaimSeven
namespace Go.Proofs.YtjghhhoebdlciaaDoor
namespace Rows

/-- THE TIED CARD OF 'glacislaw17.GroupsOrigins'. -/
def groupsOriginsCard : Claim7 := { stood := { row := groupsOriginsRow, standIns := [], harness := (true, "5571fa93bcbb20c4d566cda15d57aad7459d9e3a13cf3cac1f3b3ecd80b09773"), looks := false }, kinds := [], alts := [], laidByText := true, laidKinds := [.data, .data, .data, .data, .pinned], laidTests := true, laidLooks := .later }
def GroupsOriginsCardSaid : Prop := Claim7.holds Tryd.pinned (.plain (OpenSpec.ofChange groupsOriginsSpec)) groupsOriginsCard

/-- THE TIED CARD OF 'glacislaw11.CspmatchNames'. -/
def cspmatchNamesCard : Claim7 := { stood := { row := cspmatchNamesRow, standIns := [], harness := (true, "5571fa93bcbb20c4d566cda15d57aad7459d9e3a13cf3cac1f3b3ecd80b09773"), looks := false }, kinds := [], alts := [], laidByText := true, laidKinds := [.data, .data, .data, .data, .pinned], laidTests := true, laidLooks := .later }
def CspmatchNamesCardSaid : Prop := Claim7.holds Tryd.pinned (.plain (OpenSpec.ofChange cspmatchNamesSpec)) cspmatchNamesCard

/-- THE TIED CARD OF 'glacislaw11.CspmatchMore'. -/
def cspmatchMoreCard : Claim7 := { stood := { row := cspmatchMoreRow, standIns := [], harness := (true, "5571fa93bcbb20c4d566cda15d57aad7459d9e3a13cf3cac1f3b3ecd80b09773"), looks := false }, kinds := [], alts := [], laidByText := true, laidKinds := [.data, .data, .data, .data, .pinned], laidTests := true, laidLooks := .later }
def CspmatchMoreCardSaid : Prop := Claim7.holds Tryd.pinned (.plain (OpenSpec.ofChange cspmatchMoreSpec)) cspmatchMoreCard

/-- THE TIED CARD OF 'glacislaw11.CspmatchSelf'. -/
def cspmatchSelfCard : Claim7 := { stood := { row := cspmatchSelfRow, standIns := [], harness := (true, "5571fa93bcbb20c4d566cda15d57aad7459d9e3a13cf3cac1f3b3ecd80b09773"), looks := false }, kinds := [], alts := [], laidByText := true, laidKinds := [.data, .data, .data, .data, .pinned], laidTests := true, laidLooks := .later }
def CspmatchSelfCardSaid : Prop := Claim7.holds Tryd.pinned (.plain (OpenSpec.ofChange cspmatchSelfSpec)) cspmatchSelfCard

/-- THE TIED CARD OF 'glacislaw11.CspmatchSchemes'. -/
def cspmatchSchemesCard : Claim7 := { stood := { row := cspmatchSchemesRow, standIns := [], harness := (true, "5571fa93bcbb20c4d566cda15d57aad7459d9e3a13cf3cac1f3b3ecd80b09773"), looks := false }, kinds := [], alts := [], laidByText := true, laidKinds := [.data, .data, .data, .data, .pinned], laidTests := true, laidLooks := .later }
def CspmatchSchemesCardSaid : Prop := Claim7.holds Tryd.pinned (.plain (OpenSpec.ofChange cspmatchSchemesSpec)) cspmatchSchemesCard

/-- THE TIED CARD OF 'glacislaw11.CspmatchOwn'. -/
def cspmatchOwnCard : Claim7 := { stood := { row := cspmatchOwnRow, standIns := [], harness := (true, "5571fa93bcbb20c4d566cda15d57aad7459d9e3a13cf3cac1f3b3ecd80b09773"), looks := false }, kinds := [], alts := [], laidByText := true, laidKinds := [.data, .data, .data, .data, .pinned], laidTests := true, laidLooks := .later }
def CspmatchOwnCardSaid : Prop := Claim7.holds Tryd.pinned (.plain (OpenSpec.ofChange cspmatchOwnSpec)) cspmatchOwnCard

/-- THE SECOND FORM's CARD OF 'glacislaw17.GroupsOrigins'. -/
def groupsOriginsUptoCard : Claim7 := { stood := { row := groupsOriginsUptoRow, standIns := [], harness := (true, "5571fa93bcbb20c4d566cda15d57aad7459d9e3a13cf3cac1f3b3ecd80b09773"), looks := false }, kinds := [], alts := [], laidByText := true, laidKinds := [.data, .data, .data, .data, .pinned], laidTests := true, laidLooks := .later }
def GroupsOriginsUptoCardSaid : Prop := Claim7.holds Tryd.pinned (.plain (OpenSpec.upto groupsOriginsSpec)) groupsOriginsUptoCard

/-- THE SECOND FORM's CARD OF 'glacislaw11.CspmatchNames'. -/
def cspmatchNamesUptoCard : Claim7 := { stood := { row := cspmatchNamesUptoRow, standIns := [], harness := (true, "5571fa93bcbb20c4d566cda15d57aad7459d9e3a13cf3cac1f3b3ecd80b09773"), looks := false }, kinds := [], alts := [], laidByText := true, laidKinds := [.data, .data, .data, .data, .pinned], laidTests := true, laidLooks := .later }
def CspmatchNamesUptoCardSaid : Prop := Claim7.holds Tryd.pinned (.plain (OpenSpec.upto cspmatchNamesSpec)) cspmatchNamesUptoCard

/-- THE SECOND FORM's CARD OF 'glacislaw11.CspmatchMore'. -/
def cspmatchMoreUptoCard : Claim7 := { stood := { row := cspmatchMoreUptoRow, standIns := [], harness := (true, "5571fa93bcbb20c4d566cda15d57aad7459d9e3a13cf3cac1f3b3ecd80b09773"), looks := false }, kinds := [], alts := [], laidByText := true, laidKinds := [.data, .data, .data, .data, .pinned], laidTests := true, laidLooks := .later }
def CspmatchMoreUptoCardSaid : Prop := Claim7.holds Tryd.pinned (.plain (OpenSpec.upto cspmatchMoreSpec)) cspmatchMoreUptoCard

/-- THE SECOND FORM's CARD OF 'glacislaw11.CspmatchSelf'. -/
def cspmatchSelfUptoCard : Claim7 := { stood := { row := cspmatchSelfUptoRow, standIns := [], harness := (true, "5571fa93bcbb20c4d566cda15d57aad7459d9e3a13cf3cac1f3b3ecd80b09773"), looks := false }, kinds := [], alts := [], laidByText := true, laidKinds := [.data, .data, .data, .data, .pinned], laidTests := true, laidLooks := .later }
def CspmatchSelfUptoCardSaid : Prop := Claim7.holds Tryd.pinned (.plain (OpenSpec.upto cspmatchSelfSpec)) cspmatchSelfUptoCard

/-- THE SECOND FORM's CARD OF 'glacislaw11.CspmatchSchemes'. -/
def cspmatchSchemesUptoCard : Claim7 := { stood := { row := cspmatchSchemesUptoRow, standIns := [], harness := (true, "5571fa93bcbb20c4d566cda15d57aad7459d9e3a13cf3cac1f3b3ecd80b09773"), looks := false }, kinds := [], alts := [], laidByText := true, laidKinds := [.data, .data, .data, .data, .pinned], laidTests := true, laidLooks := .later }
def CspmatchSchemesUptoCardSaid : Prop := Claim7.holds Tryd.pinned (.plain (OpenSpec.upto cspmatchSchemesSpec)) cspmatchSchemesUptoCard

/-- THE SECOND FORM's CARD OF 'glacislaw11.CspmatchOwn'. -/
def cspmatchOwnUptoCard : Claim7 := { stood := { row := cspmatchOwnUptoRow, standIns := [], harness := (true, "5571fa93bcbb20c4d566cda15d57aad7459d9e3a13cf3cac1f3b3ecd80b09773"), looks := false }, kinds := [], alts := [], laidByText := true, laidKinds := [.data, .data, .data, .data, .pinned], laidTests := true, laidLooks := .later }
def CspmatchOwnUptoCardSaid : Prop := Claim7.holds Tryd.pinned (.plain (OpenSpec.upto cspmatchOwnSpec)) cspmatchOwnUptoCard
end Rows
end Go.Proofs.YtjghhhoebdlciaaDoor
