/-
  DERIVED. GIVEN WITH THE SEED: THE CARDS: each row of YtplbkocokknnoaaGreatDoorRows.lean that lists a variable, with what it lists TIED to the program's text (the seventh form; the later family's looks); each row that meets fmt, with fmt's text TOLD by the authors' own Lean function (tested against real Go, not proved from fmt's source: count such statements apart). THE CARD IS WHAT COUNTS. Prove the row's statement (the work); the ties are given (YtplbkocokknnoaaGreatDoorTie.lean); close each card by the builder's one call (the guide's Derived/Test/ToyasCard.lean, 'card_holds'). Laid BY PROGRAM, IN A SANDBOX (cutbox-door.mjs). By AI agents, Wed Nov 11 2026. No macro, syntax, notation, axiom, sorry.
-/
import Derived.Test.YtplbkocokknnoaaGreatDoorRows
import GoSem.ClaimSeven
namespace Go.Proofs.YtplbkocokknnoaaGreatDoor
namespace Rows

/-- THE TIED CARD OF 'glacislaw17.GroupsNil'. -/
def groupsNilCard : Claim7 := { stood := { row := groupsNilRow, standIns := [], harness := (true, "6ebccf035a4a3a4a1b9e92efbb7de1416cfa8af7dff47300b149e50d5c4f68f9"), looks := false }, kinds := [], alts := [], laidByText := true, laidKinds := [.data, .data, .data, .data, .pinned], laidTests := true, laidLooks := .later }
def GroupsNilCardSaid : Prop := Claim7.holds Tryz.pinned (.plain (OpenSpec.ofChange groupsNilSpec)) groupsNilCard

/-- THE SECOND FORM's CARD OF 'glacislaw17.GroupsNil'. -/
def groupsNilUptoCard : Claim7 := { stood := { row := groupsNilUptoRow, standIns := [], harness := (true, "6ebccf035a4a3a4a1b9e92efbb7de1416cfa8af7dff47300b149e50d5c4f68f9"), looks := false }, kinds := [], alts := [], laidByText := true, laidKinds := [.data, .data, .data, .data, .pinned], laidTests := true, laidLooks := .later }
def GroupsNilUptoCardSaid : Prop := Claim7.holds Tryz.pinned (.plain (OpenSpec.upto groupsNilSpec)) groupsNilUptoCard
end Rows
end Go.Proofs.YtplbkocokknnoaaGreatDoor
