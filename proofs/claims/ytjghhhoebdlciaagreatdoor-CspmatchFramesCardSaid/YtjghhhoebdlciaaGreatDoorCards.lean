/-
  DERIVED. GIVEN WITH THE SEED: THE CARDS: each row of YtjghhhoebdlciaaGreatDoorRows.lean that lists a variable, with what it lists TIED to the program's text (the seventh form; the later family's looks); each row that meets fmt, with fmt's text TOLD by the authors' own Lean function (tested against real Go, not proved from fmt's source: count such statements apart). THE CARD IS WHAT COUNTS. Prove the row's statement (the work); the ties are given (YtjghhhoebdlciaaGreatDoorTie.lean); close each card by the builder's one call (the guide's Derived/Test/ToyasCard.lean, 'card_holds'). Laid BY PROGRAM, IN A SANDBOX (cutbox-door.mjs). By AI agents, Wed Nov 11 2026. No macro, syntax, notation, axiom, sorry.
-/
import Derived.Test.YtjghhhoebdlciaaGreatDoorRows
import GoSem.ClaimSeven
namespace Go.Proofs.YtjghhhoebdlciaaGreatDoor
namespace Rows

/-- THE TIED CARD OF 'glacislaw11.CspmatchReads'. -/
def cspmatchReadsCard : Claim7 := { stood := { row := cspmatchReadsRow, standIns := [], harness := (true, "b247c127c183671a78708c28a3faa758b7eaadbcdd68805673c83de6c384f17d"), looks := false }, kinds := [], alts := [], laidByText := true, laidKinds := [.data, .data, .data, .data, .pinned], laidTests := true, laidLooks := .later }
def CspmatchReadsCardSaid : Prop := Claim7.holds Tryz.pinned (.plain (OpenSpec.ofChange cspmatchReadsSpec)) cspmatchReadsCard

/-- THE TIED CARD OF 'glacislaw11.CspmatchMatches'. -/
def cspmatchMatchesCard : Claim7 := { stood := { row := cspmatchMatchesRow, standIns := [], harness := (true, "b247c127c183671a78708c28a3faa758b7eaadbcdd68805673c83de6c384f17d"), looks := false }, kinds := [], alts := [], laidByText := true, laidKinds := [.data, .data, .data, .data, .pinned], laidTests := true, laidLooks := .later }
def CspmatchMatchesCardSaid : Prop := Claim7.holds Tryz.pinned (.plain (OpenSpec.ofChange cspmatchMatchesSpec)) cspmatchMatchesCard

/-- THE TIED CARD OF 'glacislaw11.CspmatchFrames'. -/
def cspmatchFramesCard : Claim7 := { stood := { row := cspmatchFramesRow, standIns := [], harness := (true, "b247c127c183671a78708c28a3faa758b7eaadbcdd68805673c83de6c384f17d"), looks := false }, kinds := [], alts := [], laidByText := true, laidKinds := [.data, .data, .data, .data, .pinned], laidTests := true, laidLooks := .later }
def CspmatchFramesCardSaid : Prop := Claim7.holds Tryz.pinned (.plain (OpenSpec.ofChange cspmatchFramesSpec)) cspmatchFramesCard

/-- THE SECOND FORM's CARD OF 'glacislaw11.CspmatchReads'. -/
def cspmatchReadsUptoCard : Claim7 := { stood := { row := cspmatchReadsUptoRow, standIns := [], harness := (true, "b247c127c183671a78708c28a3faa758b7eaadbcdd68805673c83de6c384f17d"), looks := false }, kinds := [], alts := [], laidByText := true, laidKinds := [.data, .data, .data, .data, .pinned], laidTests := true, laidLooks := .later }
def CspmatchReadsUptoCardSaid : Prop := Claim7.holds Tryz.pinned (.plain (OpenSpec.upto cspmatchReadsSpec)) cspmatchReadsUptoCard

/-- THE SECOND FORM's CARD OF 'glacislaw11.CspmatchMatches'. -/
def cspmatchMatchesUptoCard : Claim7 := { stood := { row := cspmatchMatchesUptoRow, standIns := [], harness := (true, "b247c127c183671a78708c28a3faa758b7eaadbcdd68805673c83de6c384f17d"), looks := false }, kinds := [], alts := [], laidByText := true, laidKinds := [.data, .data, .data, .data, .pinned], laidTests := true, laidLooks := .later }
def CspmatchMatchesUptoCardSaid : Prop := Claim7.holds Tryz.pinned (.plain (OpenSpec.upto cspmatchMatchesSpec)) cspmatchMatchesUptoCard

/-- THE SECOND FORM's CARD OF 'glacislaw11.CspmatchFrames'. -/
def cspmatchFramesUptoCard : Claim7 := { stood := { row := cspmatchFramesUptoRow, standIns := [], harness := (true, "b247c127c183671a78708c28a3faa758b7eaadbcdd68805673c83de6c384f17d"), looks := false }, kinds := [], alts := [], laidByText := true, laidKinds := [.data, .data, .data, .data, .pinned], laidTests := true, laidLooks := .later }
def CspmatchFramesUptoCardSaid : Prop := Claim7.holds Tryz.pinned (.plain (OpenSpec.upto cspmatchFramesSpec)) cspmatchFramesUptoCard
end Rows
end Go.Proofs.YtjghhhoebdlciaaGreatDoor
