/-
  DERIVED. GIVEN WITH THE SEED: THE CARDS: each row of YtplbkocokknnoaaDoorRows.lean that lists a variable, with what it lists TIED to the program's text (the seventh form; the later family's looks); each row that meets fmt, with fmt's text TOLD by the authors' own Lean function (tested against real Go, not proved from fmt's source: count such statements apart). THE CARD IS WHAT COUNTS. Prove the row's statement (the work); the ties are given (YtplbkocokknnoaaDoorTie.lean); close each card by the builder's one call (the guide's Derived/Test/ToyasCard.lean, 'card_holds'). Laid BY PROGRAM, IN A SANDBOX (cutbox-door.mjs). By AI agents, Wed Nov 11 2026. No macro, syntax, notation, axiom, sorry.
-/
import Derived.Test.YtplbkocokknnoaaDoorRows
import GoSem.ClaimSeven
namespace Go.Proofs.YtplbkocokknnoaaDoor
namespace Rows

/-- THE TIED CARD OF 'glacislaw17.GroupsOrigins'. -/
def groupsOriginsCard : Claim7 := { stood := { row := groupsOriginsRow, standIns := [], harness := (true, "e54b6c32095f8ddcbde889d880ef03e06f4eba451769e3723a42342acf95475c"), looks := false }, kinds := [], alts := [], laidByText := true, laidKinds := [.data, .data, .data, .data, .pinned], laidTests := true, laidLooks := .later }
def GroupsOriginsCardSaid : Prop := Claim7.holds Tryd.pinned (.plain (OpenSpec.ofChange groupsOriginsSpec)) groupsOriginsCard

/-- THE TIED CARD OF 'glacislaw11.CspmatchMore'. -/
def cspmatchMoreCard : Claim7 := { stood := { row := cspmatchMoreRow, standIns := [], harness := (true, "e54b6c32095f8ddcbde889d880ef03e06f4eba451769e3723a42342acf95475c"), looks := false }, kinds := [], alts := [], laidByText := true, laidKinds := [.data, .data, .data, .data, .pinned], laidTests := true, laidLooks := .later }
def CspmatchMoreCardSaid : Prop := Claim7.holds Tryd.pinned (.plain (OpenSpec.ofChange cspmatchMoreSpec)) cspmatchMoreCard

/-- THE SECOND FORM's CARD OF 'glacislaw17.GroupsOrigins'. -/
def groupsOriginsUptoCard : Claim7 := { stood := { row := groupsOriginsUptoRow, standIns := [], harness := (true, "e54b6c32095f8ddcbde889d880ef03e06f4eba451769e3723a42342acf95475c"), looks := false }, kinds := [], alts := [], laidByText := true, laidKinds := [.data, .data, .data, .data, .pinned], laidTests := true, laidLooks := .later }
def GroupsOriginsUptoCardSaid : Prop := Claim7.holds Tryd.pinned (.plain (OpenSpec.upto groupsOriginsSpec)) groupsOriginsUptoCard

/-- THE SECOND FORM's CARD OF 'glacislaw11.CspmatchMore'. -/
def cspmatchMoreUptoCard : Claim7 := { stood := { row := cspmatchMoreUptoRow, standIns := [], harness := (true, "e54b6c32095f8ddcbde889d880ef03e06f4eba451769e3723a42342acf95475c"), looks := false }, kinds := [], alts := [], laidByText := true, laidKinds := [.data, .data, .data, .data, .pinned], laidTests := true, laidLooks := .later }
def CspmatchMoreUptoCardSaid : Prop := Claim7.holds Tryd.pinned (.plain (OpenSpec.upto cspmatchMoreSpec)) cspmatchMoreUptoCard
end Rows
end Go.Proofs.YtplbkocokknnoaaDoor
