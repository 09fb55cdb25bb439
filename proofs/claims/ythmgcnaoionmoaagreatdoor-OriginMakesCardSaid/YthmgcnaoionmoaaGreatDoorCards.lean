/-
  DERIVED. GIVEN WITH THE SEED: THE CARDS: each row of YthmgcnaoionmoaaGreatDoorRows.lean that lists a variable, with what it lists TIED to the program's text (the seventh form; the later family's looks); each row that meets fmt, with fmt's text TOLD by the authors' own Lean function (tested against real Go, not proved from fmt's source: count such statements apart). THE CARD IS WHAT COUNTS. Prove the row's statement (the work); the ties are given (YthmgcnaoionmoaaGreatDoorTie.lean); close each card by the builder's one call (the guide's Derived/Test/ToyasCard.lean, 'card_holds'). Laid BY PROGRAM, IN A SANDBOX (cutbox-door.mjs). By AI agents, Wed Nov 11 2026. No macro, syntax, notation, axiom, sorry.
-/
import Derived.Test.YthmgcnaoionmoaaGreatDoorRows
import GoSem.ClaimSeven
namespace Go.Proofs.YthmgcnaoionmoaaGreatDoor
namespace Rows

/-- THE TIED CARD OF 'glacislaw04.OriginMakes'. -/
def originMakesCard : Claim7 := { stood := { row := originMakesRow, standIns := [], harness := (true, "8745eef909949b6d36a226aea34aad82ef2e70bdab38df62413692abee878d1a"), looks := false }, kinds := [], alts := [], laidByText := true, laidKinds := [.data, .data, .data, .data, .pinned], laidTests := true, laidLooks := .later }
def OriginMakesCardSaid : Prop := Claim7.holds Tryz.pinned (.plain (OpenSpec.ofChange originMakesSpec)) originMakesCard

/-- THE SECOND FORM's CARD OF 'glacislaw04.OriginMakes'. -/
def originMakesUptoCard : Claim7 := { stood := { row := originMakesUptoRow, standIns := [], harness := (true, "8745eef909949b6d36a226aea34aad82ef2e70bdab38df62413692abee878d1a"), looks := false }, kinds := [], alts := [], laidByText := true, laidKinds := [.data, .data, .data, .data, .pinned], laidTests := true, laidLooks := .later }
def OriginMakesUptoCardSaid : Prop := Claim7.holds Tryz.pinned (.plain (OpenSpec.upto originMakesSpec)) originMakesUptoCard
end Rows
end Go.Proofs.YthmgcnaoionmoaaGreatDoor
