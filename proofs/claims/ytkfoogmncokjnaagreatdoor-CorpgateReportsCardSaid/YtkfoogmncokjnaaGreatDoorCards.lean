/-
  DERIVED. GIVEN WITH THE SEED: THE CARDS: each row of YtkfoogmncokjnaaGreatDoorRows.lean that lists a variable, with what it lists TIED to the program's text (the seventh form; the later family's looks); each row that meets fmt, with fmt's text TOLD by the authors' own Lean function (tested against real Go, not proved from fmt's source: count such statements apart). THE CARD IS WHAT COUNTS. Prove the row's statement (the work); the ties are given (YtkfoogmncokjnaaGreatDoorTie.lean); close each card by the builder's one call (the guide's Derived/Test/ToyasCard.lean, 'card_holds'). Laid BY PROGRAM, IN A SANDBOX (cutbox-door.mjs). By AI agents, Wed Nov 11 2026. No macro, syntax, notation, axiom, sorry.
-/
import Derived.Test.YtkfoogmncokjnaaGreatDoorRows
import GoSem.ClaimSeven
namespace Go.Proofs.YtkfoogmncokjnaaGreatDoor
namespace Rows

/-- THE TIED CARD OF 'glacislaw18.EmbedTells'. -/
def embedTellsCard : Claim7 := { stood := { row := embedTellsRow, standIns := [], harness := (true, "fb855555a396ef97fda0ca07147e7881c82f2938010235ed9f2e338e22cba233"), looks := false }, kinds := [], alts := [], laidByText := true, laidKinds := [.data, .data, .data, .data, .pinned], laidTests := true, laidLooks := .later }
def EmbedTellsCardSaid : Prop := Claim7.holds Tryz.pinned (.plain (OpenSpec.ofChange embedTellsSpec)) embedTellsCard

/-- THE TIED CARD OF 'glacislaw18.EmbedPolicies'. -/
def embedPoliciesCard : Claim7 := { stood := { row := embedPoliciesRow, standIns := [], harness := (true, "fb855555a396ef97fda0ca07147e7881c82f2938010235ed9f2e338e22cba233"), looks := false }, kinds := [], alts := [], laidByText := true, laidKinds := [.data, .data, .data, .data, .pinned], laidTests := true, laidLooks := .later }
def EmbedPoliciesCardSaid : Prop := Claim7.holds Tryz.pinned (.plain (OpenSpec.ofChange embedPoliciesSpec)) embedPoliciesCard

/-- THE TIED CARD OF 'glacislaw18.EmbedMore'. -/
def embedMoreCard : Claim7 := { stood := { row := embedMoreRow, standIns := [], harness := (true, "fb855555a396ef97fda0ca07147e7881c82f2938010235ed9f2e338e22cba233"), looks := false }, kinds := [], alts := [], laidByText := true, laidKinds := [.data, .data, .data, .data, .pinned], laidTests := true, laidLooks := .later }
def EmbedMoreCardSaid : Prop := Claim7.holds Tryz.pinned (.plain (OpenSpec.ofChange embedMoreSpec)) embedMoreCard

/-- THE TIED CARD OF 'glacislaw14.CorpgateInner'. -/
def corpgateInnerCard : Claim7 := { stood := { row := corpgateInnerRow, standIns := [], harness := (true, "fb855555a396ef97fda0ca07147e7881c82f2938010235ed9f2e338e22cba233"), looks := false }, kinds := [], alts := [], laidByText := true, laidKinds := [.data, .data, .data, .data, .pinned], laidTests := true, laidLooks := .later }
def CorpgateInnerCardSaid : Prop := Claim7.holds Tryz.pinned (.plain (OpenSpec.ofChange corpgateInnerSpec)) corpgateInnerCard

/-- THE TIED CARD OF 'glacislaw14.CorpgateChecks'. -/
def corpgateChecksCard : Claim7 := { stood := { row := corpgateChecksRow, standIns := [], harness := (true, "fb855555a396ef97fda0ca07147e7881c82f2938010235ed9f2e338e22cba233"), looks := false }, kinds := [], alts := [], laidByText := true, laidKinds := [.data, .data, .data, .data, .pinned], laidTests := true, laidLooks := .later }
def CorpgateChecksCardSaid : Prop := Claim7.holds Tryz.pinned (.plain (OpenSpec.ofChange corpgateChecksSpec)) corpgateChecksCard

/-- THE TIED CARD OF 'glacislaw14.CorpgateOwn'. -/
def corpgateOwnCard : Claim7 := { stood := { row := corpgateOwnRow, standIns := [], harness := (true, "fb855555a396ef97fda0ca07147e7881c82f2938010235ed9f2e338e22cba233"), looks := false }, kinds := [], alts := [], laidByText := true, laidKinds := [.data, .data, .data, .data, .pinned], laidTests := true, laidLooks := .later }
def CorpgateOwnCardSaid : Prop := Claim7.holds Tryz.pinned (.plain (OpenSpec.ofChange corpgateOwnSpec)) corpgateOwnCard

/-- THE TIED CARD OF 'glacislaw14.CorpgateWeaker'. -/
def corpgateWeakerCard : Claim7 := { stood := { row := corpgateWeakerRow, standIns := [], harness := (true, "fb855555a396ef97fda0ca07147e7881c82f2938010235ed9f2e338e22cba233"), looks := false }, kinds := [], alts := [], laidByText := true, laidKinds := [.data, .data, .data, .data, .pinned], laidTests := true, laidLooks := .later }
def CorpgateWeakerCardSaid : Prop := Claim7.holds Tryz.pinned (.plain (OpenSpec.ofChange corpgateWeakerSpec)) corpgateWeakerCard

/-- THE TIED CARD OF 'glacislaw14.CorpgateReports'. -/
def corpgateReportsCard : Claim7 := { stood := { row := corpgateReportsRow, standIns := [], harness := (true, "fb855555a396ef97fda0ca07147e7881c82f2938010235ed9f2e338e22cba233"), looks := false }, kinds := [], alts := [], laidByText := true, laidKinds := [.data, .data, .data, .data, .pinned], laidTests := true, laidLooks := .later }
def CorpgateReportsCardSaid : Prop := Claim7.holds Tryz.pinned (.plain (OpenSpec.ofChange corpgateReportsSpec)) corpgateReportsCard

/-- THE TIED CARD OF 'glacislaw14.CorpgateSites'. -/
def corpgateSitesCard : Claim7 := { stood := { row := corpgateSitesRow, standIns := [], harness := (true, "fb855555a396ef97fda0ca07147e7881c82f2938010235ed9f2e338e22cba233"), looks := false }, kinds := [], alts := [], laidByText := true, laidKinds := [.data, .data, .data, .data, .pinned], laidTests := true, laidLooks := .later }
def CorpgateSitesCardSaid : Prop := Claim7.holds Tryz.pinned (.plain (OpenSpec.ofChange corpgateSitesSpec)) corpgateSitesCard

/-- THE SECOND FORM's CARD OF 'glacislaw18.EmbedTells'. -/
def embedTellsUptoCard : Claim7 := { stood := { row := embedTellsUptoRow, standIns := [], harness := (true, "fb855555a396ef97fda0ca07147e7881c82f2938010235ed9f2e338e22cba233"), looks := false }, kinds := [], alts := [], laidByText := true, laidKinds := [.data, .data, .data, .data, .pinned], laidTests := true, laidLooks := .later }
def EmbedTellsUptoCardSaid : Prop := Claim7.holds Tryz.pinned (.plain (OpenSpec.upto embedTellsSpec)) embedTellsUptoCard

/-- THE SECOND FORM's CARD OF 'glacislaw18.EmbedPolicies'. -/
def embedPoliciesUptoCard : Claim7 := { stood := { row := embedPoliciesUptoRow, standIns := [], harness := (true, "fb855555a396ef97fda0ca07147e7881c82f2938010235ed9f2e338e22cba233"), looks := false }, kinds := [], alts := [], laidByText := true, laidKinds := [.data, .data, .data, .data, .pinned], laidTests := true, laidLooks := .later }
def EmbedPoliciesUptoCardSaid : Prop := Claim7.holds Tryz.pinned (.plain (OpenSpec.upto embedPoliciesSpec)) embedPoliciesUptoCard

/-- THE SECOND FORM's CARD OF 'glacislaw18.EmbedMore'. -/
def embedMoreUptoCard : Claim7 := { stood := { row := embedMoreUptoRow, standIns := [], harness := (true, "fb855555a396ef97fda0ca07147e7881c82f2938010235ed9f2e338e22cba233"), looks := false }, kinds := [], alts := [], laidByText := true, laidKinds := [.data, .data, .data, .data, .pinned], laidTests := true, laidLooks := .later }
def EmbedMoreUptoCardSaid : Prop := Claim7.holds Tryz.pinned (.plain (OpenSpec.upto embedMoreSpec)) embedMoreUptoCard

/-- THE SECOND FORM's CARD OF 'glacislaw14.CorpgateInner'. -/
def corpgateInnerUptoCard : Claim7 := { stood := { row := corpgateInnerUptoRow, standIns := [], harness := (true, "fb855555a396ef97fda0ca07147e7881c82f2938010235ed9f2e338e22cba233"), looks := false }, kinds := [], alts := [], laidByText := true, laidKinds := [.data, .data, .data, .data, .pinned], laidTests := true, laidLooks := .later }
def CorpgateInnerUptoCardSaid : Prop := Claim7.holds Tryz.pinned (.plain (OpenSpec.upto corpgateInnerSpec)) corpgateInnerUptoCard

/-- THE SECOND FORM's CARD OF 'glacislaw14.CorpgateChecks'. -/
def corpgateChecksUptoCard : Claim7 := { stood := { row := corpgateChecksUptoRow, standIns := [], harness := (true, "fb855555a396ef97fda0ca07147e7881c82f2938010235ed9f2e338e22cba233"), looks := false }, kinds := [], alts := [], laidByText := true, laidKinds := [.data, .data, .data, .data, .pinned], laidTests := true, laidLooks := .later }
def CorpgateChecksUptoCardSaid : Prop := Claim7.holds Tryz.pinned (.plain (OpenSpec.upto corpgateChecksSpec)) corpgateChecksUptoCard

/-- THE SECOND FORM's CARD OF 'glacislaw14.CorpgateOwn'. -/
def corpgateOwnUptoCard : Claim7 := { stood := { row := corpgateOwnUptoRow, standIns := [], harness := (true, "fb855555a396ef97fda0ca07147e7881c82f2938010235ed9f2e338e22cba233"), looks := false }, kinds := [], alts := [], laidByText := true, laidKinds := [.data, .data, .data, .data, .pinned], laidTests := true, laidLooks := .later }
def CorpgateOwnUptoCardSaid : Prop := Claim7.holds Tryz.pinned (.plain (OpenSpec.upto corpgateOwnSpec)) corpgateOwnUptoCard

/-- THE SECOND FORM's CARD OF 'glacislaw14.CorpgateWeaker'. -/
def corpgateWeakerUptoCard : Claim7 := { stood := { row := corpgateWeakerUptoRow, standIns := [], harness := (true, "fb855555a396ef97fda0ca07147e7881c82f2938010235ed9f2e338e22cba233"), looks := false }, kinds := [], alts := [], laidByText := true, laidKinds := [.data, .data, .data, .data, .pinned], laidTests := true, laidLooks := .later }
def CorpgateWeakerUptoCardSaid : Prop := Claim7.holds Tryz.pinned (.plain (OpenSpec.upto corpgateWeakerSpec)) corpgateWeakerUptoCard

/-- THE SECOND FORM's CARD OF 'glacislaw14.CorpgateReports'. -/
def corpgateReportsUptoCard : Claim7 := { stood := { row := corpgateReportsUptoRow, standIns := [], harness := (true, "fb855555a396ef97fda0ca07147e7881c82f2938010235ed9f2e338e22cba233"), looks := false }, kinds := [], alts := [], laidByText := true, laidKinds := [.data, .data, .data, .data, .pinned], laidTests := true, laidLooks := .later }
def CorpgateReportsUptoCardSaid : Prop := Claim7.holds Tryz.pinned (.plain (OpenSpec.upto corpgateReportsSpec)) corpgateReportsUptoCard

/-- THE SECOND FORM's CARD OF 'glacislaw14.CorpgateSites'. -/
def corpgateSitesUptoCard : Claim7 := { stood := { row := corpgateSitesUptoRow, standIns := [], harness := (true, "fb855555a396ef97fda0ca07147e7881c82f2938010235ed9f2e338e22cba233"), looks := false }, kinds := [], alts := [], laidByText := true, laidKinds := [.data, .data, .data, .data, .pinned], laidTests := true, laidLooks := .later }
def CorpgateSitesUptoCardSaid : Prop := Claim7.holds Tryz.pinned (.plain (OpenSpec.upto corpgateSitesSpec)) corpgateSitesUptoCard
end Rows
end Go.Proofs.YtkfoogmncokjnaaGreatDoor
