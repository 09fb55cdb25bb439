/-
  DERIVED. GIVEN WITH THE SEED: THE CARDS: each row of YtkfoogmncokjnaaDoorRows.lean that lists a variable, with what it lists TIED to the program's text (the seventh form; the later family's looks); each row that meets fmt, with fmt's text TOLD by the authors' own Lean function (tested against real Go, not proved from fmt's source: count such statements apart). THE CARD IS WHAT COUNTS. Prove the row's statement (the work); the ties are given (YtkfoogmncokjnaaDoorTie.lean); close each card by the builder's one call (the guide's Derived/Test/ToyasCard.lean, 'card_holds'). Laid BY PROGRAM, IN A SANDBOX (cutbox-door.mjs). By AI agents, Wed Nov 11 2026. No macro, syntax, notation, axiom, sorry.
-/
import Derived.Test.YtkfoogmncokjnaaDoorRows
import GoSem.ClaimSeven
namespace Go.Proofs.YtkfoogmncokjnaaDoor
namespace Rows

/-- THE TIED CARD OF 'glacislaw18.EmbedNames'. -/
def embedNamesCard : Claim7 := { stood := { row := embedNamesRow, standIns := [], harness := (true, "cb01947e2095d2d387fabca5f950d3f4a0fc5fbcfea0b0cb31a21627eae0620f"), looks := false }, kinds := [], alts := [], laidByText := true, laidKinds := [.data, .data, .data, .data, .pinned], laidTests := true, laidLooks := .later }
def EmbedNamesCardSaid : Prop := Claim7.holds Tryd.pinned (.plain (OpenSpec.ofChange embedNamesSpec)) embedNamesCard

/-- THE TIED CARD OF 'glacislaw18.EmbedChain'. -/
def embedChainCard : Claim7 := { stood := { row := embedChainRow, standIns := [], harness := (true, "cb01947e2095d2d387fabca5f950d3f4a0fc5fbcfea0b0cb31a21627eae0620f"), looks := false }, kinds := [], alts := [], laidByText := true, laidKinds := [.data, .data, .data, .data, .pinned], laidTests := true, laidLooks := .later }
def EmbedChainCardSaid : Prop := Claim7.holds Tryd.pinned (.plain (OpenSpec.ofChange embedChainSpec)) embedChainCard

/-- THE TIED CARD OF 'glacislaw18.EmbedOwn'. -/
def embedOwnCard : Claim7 := { stood := { row := embedOwnRow, standIns := [], harness := (true, "cb01947e2095d2d387fabca5f950d3f4a0fc5fbcfea0b0cb31a21627eae0620f"), looks := false }, kinds := [], alts := [], laidByText := true, laidKinds := [.data, .data, .data, .data, .pinned], laidTests := true, laidLooks := .later }
def EmbedOwnCardSaid : Prop := Claim7.holds Tryd.pinned (.plain (OpenSpec.ofChange embedOwnSpec)) embedOwnCard

/-- THE SECOND FORM's CARD OF 'glacislaw18.EmbedNames'. -/
def embedNamesUptoCard : Claim7 := { stood := { row := embedNamesUptoRow, standIns := [], harness := (true, "cb01947e2095d2d387fabca5f950d3f4a0fc5fbcfea0b0cb31a21627eae0620f"), looks := false }, kinds := [], alts := [], laidByText := true, laidKinds := [.data, .data, .data, .data, .pinned], laidTests := true, laidLooks := .later }
def EmbedNamesUptoCardSaid : Prop := Claim7.holds Tryd.pinned (.plain (OpenSpec.upto embedNamesSpec)) embedNamesUptoCard

/-- THE SECOND FORM's CARD OF 'glacislaw18.EmbedChain'. -/
def embedChainUptoCard : Claim7 := { stood := { row := embedChainUptoRow, standIns := [], harness := (true, "cb01947e2095d2d387fabca5f950d3f4a0fc5fbcfea0b0cb31a21627eae0620f"), looks := false }, kinds := [], alts := [], laidByText := true, laidKinds := [.data, .data, .data, .data, .pinned], laidTests := true, laidLooks := .later }
def EmbedChainUptoCardSaid : Prop := Claim7.holds Tryd.pinned (.plain (OpenSpec.upto embedChainSpec)) embedChainUptoCard

/-- THE SECOND FORM's CARD OF 'glacislaw18.EmbedOwn'. -/
def embedOwnUptoCard : Claim7 := { stood := { row := embedOwnUptoRow, standIns := [], harness := (true, "cb01947e2095d2d387fabca5f950d3f4a0fc5fbcfea0b0cb31a21627eae0620f"), looks := false }, kinds := [], alts := [], laidByText := true, laidKinds := [.data, .data, .data, .data, .pinned], laidTests := true, laidLooks := .later }
def EmbedOwnUptoCardSaid : Prop := Claim7.holds Tryd.pinned (.plain (OpenSpec.upto embedOwnSpec)) embedOwnUptoCard
end Rows
end Go.Proofs.YtkfoogmncokjnaaDoor
