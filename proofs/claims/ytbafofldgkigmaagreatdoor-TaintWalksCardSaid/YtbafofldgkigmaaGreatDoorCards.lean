/-
  DERIVED. GIVEN WITH THE SEED: THE CARDS: each row of YtbafofldgkigmaaGreatDoorRows.lean that lists a variable, with what it lists TIED to the program's text (the seventh form; the later family's looks); each row that meets fmt, with fmt's text TOLD by the authors' own Lean function (tested against real Go, not proved from fmt's source: count such statements apart). THE CARD IS WHAT COUNTS. Prove the row's statement (the work); the ties are given (YtbafofldgkigmaaGreatDoorTie.lean); close each card by the builder's one call (the guide's Derived/Test/ToyasCard.lean, 'card_holds'). Laid BY PROGRAM, IN A SANDBOX (cutbox-door.mjs). By AI agents, Wed Nov 11 2026. No macro, syntax, notation, axiom, sorry.
-/
import Derived.Test.YtbafofldgkigmaaGreatDoorRows
import GoSem.ClaimSeven
namespace Go.Proofs.YtbafofldgkigmaaGreatDoor
namespace Rows

/-- THE TIED CARD OF 'glacislaw14.CorpgateOwn'. -/
def corpgateOwnCard : Claim7 := { stood := { row := corpgateOwnRow, standIns := [], harness := (true, "9532fd07c092b3e855ffde6021322d03af8c5b158d0ff2891b8e1e321a730eb5"), looks := false }, kinds := [], alts := [], laidByText := true, laidKinds := [.data, .data, .data, .data, .pinned], laidTests := true, laidLooks := .later }
def CorpgateOwnCardSaid : Prop := Claim7.holds Tryz.pinned (.plain (OpenSpec.ofChange corpgateOwnSpec)) corpgateOwnCard

/-- THE TIED CARD OF 'glacislaw14.CorpgateSites'. -/
def corpgateSitesCard : Claim7 := { stood := { row := corpgateSitesRow, standIns := [], harness := (true, "9532fd07c092b3e855ffde6021322d03af8c5b158d0ff2891b8e1e321a730eb5"), looks := false }, kinds := [], alts := [], laidByText := true, laidKinds := [.data, .data, .data, .data, .pinned], laidTests := true, laidLooks := .later }
def CorpgateSitesCardSaid : Prop := Claim7.holds Tryz.pinned (.plain (OpenSpec.ofChange corpgateSitesSpec)) corpgateSitesCard

/-- THE TIED CARD OF 'glacislaw13.TaintNames'. -/
def taintNamesCard : Claim7 := { stood := { row := taintNamesRow, standIns := [], harness := (true, "9532fd07c092b3e855ffde6021322d03af8c5b158d0ff2891b8e1e321a730eb5"), looks := false }, kinds := [], alts := [], laidByText := true, laidKinds := [.data, .data, .data, .data, .pinned], laidTests := true, laidLooks := .later }
def TaintNamesCardSaid : Prop := Claim7.holds Tryz.pinned (.plain (OpenSpec.ofChange taintNamesSpec)) taintNamesCard

/-- THE TIED CARD OF 'glacislaw13.TaintShares'. -/
def taintSharesCard : Claim7 := { stood := { row := taintSharesRow, standIns := [], harness := (true, "9532fd07c092b3e855ffde6021322d03af8c5b158d0ff2891b8e1e321a730eb5"), looks := false }, kinds := [], alts := [], laidByText := true, laidKinds := [.data, .data, .data, .data, .pinned], laidTests := true, laidLooks := .later }
def TaintSharesCardSaid : Prop := Claim7.holds Tryz.pinned (.plain (OpenSpec.ofChange taintSharesSpec)) taintSharesCard

/-- THE TIED CARD OF 'glacislaw13.TaintWalks'. -/
def taintWalksCard : Claim7 := { stood := { row := taintWalksRow, standIns := [], harness := (true, "9532fd07c092b3e855ffde6021322d03af8c5b158d0ff2891b8e1e321a730eb5"), looks := false }, kinds := [], alts := [], laidByText := true, laidKinds := [.data, .data, .data, .data, .pinned], laidTests := true, laidLooks := .later }
def TaintWalksCardSaid : Prop := Claim7.holds Tryz.pinned (.plain (OpenSpec.ofChange taintWalksSpec)) taintWalksCard

/-- THE TIED CARD OF 'glacislaw13.TaintOwn'. -/
def taintOwnCard : Claim7 := { stood := { row := taintOwnRow, standIns := [], harness := (true, "9532fd07c092b3e855ffde6021322d03af8c5b158d0ff2891b8e1e321a730eb5"), looks := false }, kinds := [], alts := [], laidByText := true, laidKinds := [.data, .data, .data, .data, .pinned], laidTests := true, laidLooks := .later }
def TaintOwnCardSaid : Prop := Claim7.holds Tryz.pinned (.plain (OpenSpec.ofChange taintOwnSpec)) taintOwnCard

/-- THE TIED CARD OF 'glacislaw13.TaintStar'. -/
def taintStarCard : Claim7 := { stood := { row := taintStarRow, standIns := [], harness := (true, "9532fd07c092b3e855ffde6021322d03af8c5b158d0ff2891b8e1e321a730eb5"), looks := false }, kinds := [], alts := [], laidByText := true, laidKinds := [.data, .data, .data, .data, .pinned], laidTests := true, laidLooks := .later }
def TaintStarCardSaid : Prop := Claim7.holds Tryz.pinned (.plain (OpenSpec.ofChange taintStarSpec)) taintStarCard

/-- THE TIED CARD OF 'glacislaw13.TaintLeaves'. -/
def taintLeavesCard : Claim7 := { stood := { row := taintLeavesRow, standIns := [], harness := (true, "9532fd07c092b3e855ffde6021322d03af8c5b158d0ff2891b8e1e321a730eb5"), looks := false }, kinds := [], alts := [], laidByText := true, laidKinds := [.data, .data, .data, .data, .pinned], laidTests := true, laidLooks := .later }
def TaintLeavesCardSaid : Prop := Claim7.holds Tryz.pinned (.plain (OpenSpec.ofChange taintLeavesSpec)) taintLeavesCard

/-- THE TIED CARD OF 'glacislaw13.TaintHops'. -/
def taintHopsCard : Claim7 := { stood := { row := taintHopsRow, standIns := [], harness := (true, "9532fd07c092b3e855ffde6021322d03af8c5b158d0ff2891b8e1e321a730eb5"), looks := false }, kinds := [], alts := [], laidByText := true, laidKinds := [.data, .data, .data, .data, .pinned], laidTests := true, laidLooks := .later }
def TaintHopsCardSaid : Prop := Claim7.holds Tryz.pinned (.plain (OpenSpec.ofChange taintHopsSpec)) taintHopsCard

/-- THE TIED CARD OF 'glacislaw17.GroupsPlays'. -/
def groupsPlaysCard : Claim7 := { stood := { row := groupsPlaysRow, standIns := [], harness := (true, "9532fd07c092b3e855ffde6021322d03af8c5b158d0ff2891b8e1e321a730eb5"), looks := false }, kinds := [], alts := [], laidByText := true, laidKinds := [.data, .data, .data, .data, .pinned], laidTests := true, laidLooks := .later }
def GroupsPlaysCardSaid : Prop := Claim7.holds Tryz.pinned (.plain (OpenSpec.ofChange groupsPlaysSpec)) groupsPlaysCard

/-- THE TIED CARD OF 'glacislaw17.GroupsApart'. -/
def groupsApartCard : Claim7 := { stood := { row := groupsApartRow, standIns := [], harness := (true, "9532fd07c092b3e855ffde6021322d03af8c5b158d0ff2891b8e1e321a730eb5"), looks := false }, kinds := [], alts := [], laidByText := true, laidKinds := [.data, .data, .data, .data, .pinned], laidTests := true, laidLooks := .later }
def GroupsApartCardSaid : Prop := Claim7.holds Tryz.pinned (.plain (OpenSpec.ofChange groupsApartSpec)) groupsApartCard

/-- THE SECOND FORM's CARD OF 'glacislaw14.CorpgateOwn'. -/
def corpgateOwnUptoCard : Claim7 := { stood := { row := corpgateOwnUptoRow, standIns := [], harness := (true, "9532fd07c092b3e855ffde6021322d03af8c5b158d0ff2891b8e1e321a730eb5"), looks := false }, kinds := [], alts := [], laidByText := true, laidKinds := [.data, .data, .data, .data, .pinned], laidTests := true, laidLooks := .later }
def CorpgateOwnUptoCardSaid : Prop := Claim7.holds Tryz.pinned (.plain (OpenSpec.upto corpgateOwnSpec)) corpgateOwnUptoCard

/-- THE SECOND FORM's CARD OF 'glacislaw14.CorpgateSites'. -/
def corpgateSitesUptoCard : Claim7 := { stood := { row := corpgateSitesUptoRow, standIns := [], harness := (true, "9532fd07c092b3e855ffde6021322d03af8c5b158d0ff2891b8e1e321a730eb5"), looks := false }, kinds := [], alts := [], laidByText := true, laidKinds := [.data, .data, .data, .data, .pinned], laidTests := true, laidLooks := .later }
def CorpgateSitesUptoCardSaid : Prop := Claim7.holds Tryz.pinned (.plain (OpenSpec.upto corpgateSitesSpec)) corpgateSitesUptoCard

/-- THE SECOND FORM's CARD OF 'glacislaw13.TaintNames'. -/
def taintNamesUptoCard : Claim7 := { stood := { row := taintNamesUptoRow, standIns := [], harness := (true, "9532fd07c092b3e855ffde6021322d03af8c5b158d0ff2891b8e1e321a730eb5"), looks := false }, kinds := [], alts := [], laidByText := true, laidKinds := [.data, .data, .data, .data, .pinned], laidTests := true, laidLooks := .later }
def TaintNamesUptoCardSaid : Prop := Claim7.holds Tryz.pinned (.plain (OpenSpec.upto taintNamesSpec)) taintNamesUptoCard

/-- THE SECOND FORM's CARD OF 'glacislaw13.TaintShares'. -/
def taintSharesUptoCard : Claim7 := { stood := { row := taintSharesUptoRow, standIns := [], harness := (true, "9532fd07c092b3e855ffde6021322d03af8c5b158d0ff2891b8e1e321a730eb5"), looks := false }, kinds := [], alts := [], laidByText := true, laidKinds := [.data, .data, .data, .data, .pinned], laidTests := true, laidLooks := .later }
def TaintSharesUptoCardSaid : Prop := Claim7.holds Tryz.pinned (.plain (OpenSpec.upto taintSharesSpec)) taintSharesUptoCard

/-- THE SECOND FORM's CARD OF 'glacislaw13.TaintWalks'. -/
def taintWalksUptoCard : Claim7 := { stood := { row := taintWalksUptoRow, standIns := [], harness := (true, "9532fd07c092b3e855ffde6021322d03af8c5b158d0ff2891b8e1e321a730eb5"), looks := false }, kinds := [], alts := [], laidByText := true, laidKinds := [.data, .data, .data, .data, .pinned], laidTests := true, laidLooks := .later }
def TaintWalksUptoCardSaid : Prop := Claim7.holds Tryz.pinned (.plain (OpenSpec.upto taintWalksSpec)) taintWalksUptoCard

/-- THE SECOND FORM's CARD OF 'glacislaw13.TaintOwn'. -/
def taintOwnUptoCard : Claim7 := { stood := { row := taintOwnUptoRow, standIns := [], harness := (true, "9532fd07c092b3e855ffde6021322d03af8c5b158d0ff2891b8e1e321a730eb5"), looks := false }, kinds := [], alts := [], laidByText := true, laidKinds := [.data, .data, .data, .data, .pinned], laidTests := true, laidLooks := .later }
def TaintOwnUptoCardSaid : Prop := Claim7.holds Tryz.pinned (.plain (OpenSpec.upto taintOwnSpec)) taintOwnUptoCard

/-- THE SECOND FORM's CARD OF 'glacislaw13.TaintStar'. -/
def taintStarUptoCard : Claim7 := { stood := { row := taintStarUptoRow, standIns := [], harness := (true, "9532fd07c092b3e855ffde6021322d03af8c5b158d0ff2891b8e1e321a730eb5"), looks := false }, kinds := [], alts := [], laidByText := true, laidKinds := [.data, .data, .data, .data, .pinned], laidTests := true, laidLooks := .later }
def TaintStarUptoCardSaid : Prop := Claim7.holds Tryz.pinned (.plain (OpenSpec.upto taintStarSpec)) taintStarUptoCard

/-- THE SECOND FORM's CARD OF 'glacislaw13.TaintLeaves'. -/
def taintLeavesUptoCard : Claim7 := { stood := { row := taintLeavesUptoRow, standIns := [], harness := (true, "9532fd07c092b3e855ffde6021322d03af8c5b158d0ff2891b8e1e321a730eb5"), looks := false }, kinds := [], alts := [], laidByText := true, laidKinds := [.data, .data, .data, .data, .pinned], laidTests := true, laidLooks := .later }
def TaintLeavesUptoCardSaid : Prop := Claim7.holds Tryz.pinned (.plain (OpenSpec.upto taintLeavesSpec)) taintLeavesUptoCard

/-- THE SECOND FORM's CARD OF 'glacislaw13.TaintHops'. -/
def taintHopsUptoCard : Claim7 := { stood := { row := taintHopsUptoRow, standIns := [], harness := (true, "9532fd07c092b3e855ffde6021322d03af8c5b158d0ff2891b8e1e321a730eb5"), looks := false }, kinds := [], alts := [], laidByText := true, laidKinds := [.data, .data, .data, .data, .pinned], laidTests := true, laidLooks := .later }
def TaintHopsUptoCardSaid : Prop := Claim7.holds Tryz.pinned (.plain (OpenSpec.upto taintHopsSpec)) taintHopsUptoCard

/-- THE SECOND FORM's CARD OF 'glacislaw17.GroupsPlays'. -/
def groupsPlaysUptoCard : Claim7 := { stood := { row := groupsPlaysUptoRow, standIns := [], harness := (true, "9532fd07c092b3e855ffde6021322d03af8c5b158d0ff2891b8e1e321a730eb5"), looks := false }, kinds := [], alts := [], laidByText := true, laidKinds := [.data, .data, .data, .data, .pinned], laidTests := true, laidLooks := .later }
def GroupsPlaysUptoCardSaid : Prop := Claim7.holds Tryz.pinned (.plain (OpenSpec.upto groupsPlaysSpec)) groupsPlaysUptoCard

/-- THE SECOND FORM's CARD OF 'glacislaw17.GroupsApart'. -/
def groupsApartUptoCard : Claim7 := { stood := { row := groupsApartUptoRow, standIns := [], harness := (true, "9532fd07c092b3e855ffde6021322d03af8c5b158d0ff2891b8e1e321a730eb5"), looks := false }, kinds := [], alts := [], laidByText := true, laidKinds := [.data, .data, .data, .data, .pinned], laidTests := true, laidLooks := .later }
def GroupsApartUptoCardSaid : Prop := Claim7.holds Tryz.pinned (.plain (OpenSpec.upto groupsApartSpec)) groupsApartUptoCard
end Rows
end Go.Proofs.YtbafofldgkigmaaGreatDoor
