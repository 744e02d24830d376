/-
  DERIVED. GIVEN WITH THE SEED: THE CARDS: each row of YtgpglgbcobeogaaGreatDoorRows.lean that lists a variable, with what it lists TIED to the program's text (the seventh form; the later family's looks); each row that meets fmt, with fmt's text TOLD by the authors' own Lean function (tested against real Go, not proved from fmt's source: count such statements apart). THE CARD IS WHAT COUNTS. Prove the row's statement (the work); the ties are given (YtgpglgbcobeogaaGreatDoorTie.lean); close each card by the builder's one call (the guide's Derived/Test/ToyasCard.lean, 'card_holds'). Laid BY PROGRAM, IN A SANDBOX (cutbox-door.mjs). By AI agents, Wed Nov 11 2026. No macro, syntax, notation, axiom, sorry.
-/
import Derived.Test.YtgpglgbcobeogaaGreatDoorRows
import GoSem.ClaimSeven
namespace Go.Proofs.YtgpglgbcobeogaaGreatDoor
namespace Rows

/-- THE TIED CARD OF 'abaculuslaw31.LassoLeast'. -/
def lassoLeastCard : Claim7 := { stood := { row := lassoLeastRow, standIns := [], harness := (true, "86625144f3cfa0c839184e5f09597836d861f27968088393b9a501c47ad0da9f"), looks := false }, kinds := [], alts := [], laidByText := true, laidKinds := [.data], laidTests := true, laidLooks := .later }
def LassoLeastCardSaid : Prop := Claim7.holds Tryz.pinned (.plain (OpenSpec.ofChange lassoLeastSpec)) lassoLeastCard

/-- THE TIED CARD OF 'abaculuslaw31.LassoUnits'. -/
def lassoUnitsCard : Claim7 := { stood := { row := lassoUnitsRow, standIns := [], harness := (true, "86625144f3cfa0c839184e5f09597836d861f27968088393b9a501c47ad0da9f"), looks := false }, kinds := [], alts := [], laidByText := true, laidKinds := [.data], laidTests := true, laidLooks := .later }
def LassoUnitsCardSaid : Prop := Claim7.holds Tryz.pinned (.plain (OpenSpec.ofChange lassoUnitsSpec)) lassoUnitsCard

/-- THE TIED CARD OF 'abaculuslaw31.LassoTells'. -/
def lassoTellsCard : Claim7 := { stood := { row := lassoTellsRow, standIns := [], harness := (true, "86625144f3cfa0c839184e5f09597836d861f27968088393b9a501c47ad0da9f"), looks := false }, kinds := [], alts := [], laidByText := true, laidKinds := [.data], laidTests := true, laidLooks := .later }
def LassoTellsCardSaid : Prop := Claim7.holds Tryz.pinned (.plain (OpenSpec.ofChange lassoTellsSpec)) lassoTellsCard

/-- THE TIED CARD OF 'abaculuslaw31.LassoAt'. -/
def lassoAtCard : Claim7 := { stood := { row := lassoAtRow, standIns := [], harness := (true, "86625144f3cfa0c839184e5f09597836d861f27968088393b9a501c47ad0da9f"), looks := false }, kinds := [], alts := [], laidByText := true, laidKinds := [.data], laidTests := true, laidLooks := .later }
def LassoAtCardSaid : Prop := Claim7.holds Tryz.pinned (.plain (OpenSpec.ofChange lassoAtSpec)) lassoAtCard

/-- THE TIED CARD OF 'abaculuslaw31.LassoWide'. -/
def lassoWideCard : Claim7 := { stood := { row := lassoWideRow, standIns := [], harness := (true, "86625144f3cfa0c839184e5f09597836d861f27968088393b9a501c47ad0da9f"), looks := false }, kinds := [], alts := [], laidByText := true, laidKinds := [.data], laidTests := true, laidLooks := .later }
def LassoWideCardSaid : Prop := Claim7.holds Tryz.pinned (.plain (OpenSpec.ofChange lassoWideSpec)) lassoWideCard

/-- THE TIED CARD OF 'abaculuslaw31.LassoKnots'. -/
def lassoKnotsCard : Claim7 := { stood := { row := lassoKnotsRow, standIns := [], harness := (true, "86625144f3cfa0c839184e5f09597836d861f27968088393b9a501c47ad0da9f"), looks := false }, kinds := [], alts := [], laidByText := true, laidKinds := [.data], laidTests := true, laidLooks := .later }
def LassoKnotsCardSaid : Prop := Claim7.holds Tryz.pinned (.plain (OpenSpec.ofChange lassoKnotsSpec)) lassoKnotsCard

/-- THE TIED CARD OF 'abaculuslaw31.LassoPaths'. -/
def lassoPathsCard : Claim7 := { stood := { row := lassoPathsRow, standIns := [], harness := (true, "86625144f3cfa0c839184e5f09597836d861f27968088393b9a501c47ad0da9f"), looks := false }, kinds := [], alts := [], laidByText := true, laidKinds := [.data], laidTests := true, laidLooks := .later }
def LassoPathsCardSaid : Prop := Claim7.holds Tryz.pinned (.plain (OpenSpec.ofChange lassoPathsSpec)) lassoPathsCard

/-- THE TIED CARD OF 'abaculuslaw31.LassoKnown'. -/
def lassoKnownCard : Claim7 := { stood := { row := lassoKnownRow, standIns := [], harness := (true, "86625144f3cfa0c839184e5f09597836d861f27968088393b9a501c47ad0da9f"), looks := false }, kinds := [], alts := [], laidByText := true, laidKinds := [.data], laidTests := true, laidLooks := .later }
def LassoKnownCardSaid : Prop := Claim7.holds Tryz.pinned (.plain (OpenSpec.ofChange lassoKnownSpec)) lassoKnownCard

/-- THE TIED CARD OF 'abaculuslaw31.LassoFits'. -/
def lassoFitsCard : Claim7 := { stood := { row := lassoFitsRow, standIns := [], harness := (true, "86625144f3cfa0c839184e5f09597836d861f27968088393b9a501c47ad0da9f"), looks := false }, kinds := [], alts := [], laidByText := true, laidKinds := [.data], laidTests := true, laidLooks := .later }
def LassoFitsCardSaid : Prop := Claim7.holds Tryz.pinned (.plain (OpenSpec.ofChange lassoFitsSpec)) lassoFitsCard

/-- THE SECOND FORM's CARD OF 'abaculuslaw31.LassoLeast'. -/
def lassoLeastUptoCard : Claim7 := { stood := { row := lassoLeastUptoRow, standIns := [], harness := (true, "86625144f3cfa0c839184e5f09597836d861f27968088393b9a501c47ad0da9f"), looks := false }, kinds := [], alts := [], laidByText := true, laidKinds := [.data], laidTests := true, laidLooks := .later }
def LassoLeastUptoCardSaid : Prop := Claim7.holds Tryz.pinned (.plain (OpenSpec.upto lassoLeastSpec)) lassoLeastUptoCard

/-- THE SECOND FORM's CARD OF 'abaculuslaw31.LassoUnits'. -/
def lassoUnitsUptoCard : Claim7 := { stood := { row := lassoUnitsUptoRow, standIns := [], harness := (true, "86625144f3cfa0c839184e5f09597836d861f27968088393b9a501c47ad0da9f"), looks := false }, kinds := [], alts := [], laidByText := true, laidKinds := [.data], laidTests := true, laidLooks := .later }
def LassoUnitsUptoCardSaid : Prop := Claim7.holds Tryz.pinned (.plain (OpenSpec.upto lassoUnitsSpec)) lassoUnitsUptoCard

/-- THE SECOND FORM's CARD OF 'abaculuslaw31.LassoTells'. -/
def lassoTellsUptoCard : Claim7 := { stood := { row := lassoTellsUptoRow, standIns := [], harness := (true, "86625144f3cfa0c839184e5f09597836d861f27968088393b9a501c47ad0da9f"), looks := false }, kinds := [], alts := [], laidByText := true, laidKinds := [.data], laidTests := true, laidLooks := .later }
def LassoTellsUptoCardSaid : Prop := Claim7.holds Tryz.pinned (.plain (OpenSpec.upto lassoTellsSpec)) lassoTellsUptoCard

/-- THE SECOND FORM's CARD OF 'abaculuslaw31.LassoAt'. -/
def lassoAtUptoCard : Claim7 := { stood := { row := lassoAtUptoRow, standIns := [], harness := (true, "86625144f3cfa0c839184e5f09597836d861f27968088393b9a501c47ad0da9f"), looks := false }, kinds := [], alts := [], laidByText := true, laidKinds := [.data], laidTests := true, laidLooks := .later }
def LassoAtUptoCardSaid : Prop := Claim7.holds Tryz.pinned (.plain (OpenSpec.upto lassoAtSpec)) lassoAtUptoCard

/-- THE SECOND FORM's CARD OF 'abaculuslaw31.LassoWide'. -/
def lassoWideUptoCard : Claim7 := { stood := { row := lassoWideUptoRow, standIns := [], harness := (true, "86625144f3cfa0c839184e5f09597836d861f27968088393b9a501c47ad0da9f"), looks := false }, kinds := [], alts := [], laidByText := true, laidKinds := [.data], laidTests := true, laidLooks := .later }
def LassoWideUptoCardSaid : Prop := Claim7.holds Tryz.pinned (.plain (OpenSpec.upto lassoWideSpec)) lassoWideUptoCard

/-- THE SECOND FORM's CARD OF 'abaculuslaw31.LassoKnots'. -/
def lassoKnotsUptoCard : Claim7 := { stood := { row := lassoKnotsUptoRow, standIns := [], harness := (true, "86625144f3cfa0c839184e5f09597836d861f27968088393b9a501c47ad0da9f"), looks := false }, kinds := [], alts := [], laidByText := true, laidKinds := [.data], laidTests := true, laidLooks := .later }
def LassoKnotsUptoCardSaid : Prop := Claim7.holds Tryz.pinned (.plain (OpenSpec.upto lassoKnotsSpec)) lassoKnotsUptoCard

/-- THE SECOND FORM's CARD OF 'abaculuslaw31.LassoPaths'. -/
def lassoPathsUptoCard : Claim7 := { stood := { row := lassoPathsUptoRow, standIns := [], harness := (true, "86625144f3cfa0c839184e5f09597836d861f27968088393b9a501c47ad0da9f"), looks := false }, kinds := [], alts := [], laidByText := true, laidKinds := [.data], laidTests := true, laidLooks := .later }
def LassoPathsUptoCardSaid : Prop := Claim7.holds Tryz.pinned (.plain (OpenSpec.upto lassoPathsSpec)) lassoPathsUptoCard

/-- THE SECOND FORM's CARD OF 'abaculuslaw31.LassoKnown'. -/
def lassoKnownUptoCard : Claim7 := { stood := { row := lassoKnownUptoRow, standIns := [], harness := (true, "86625144f3cfa0c839184e5f09597836d861f27968088393b9a501c47ad0da9f"), looks := false }, kinds := [], alts := [], laidByText := true, laidKinds := [.data], laidTests := true, laidLooks := .later }
def LassoKnownUptoCardSaid : Prop := Claim7.holds Tryz.pinned (.plain (OpenSpec.upto lassoKnownSpec)) lassoKnownUptoCard

/-- THE SECOND FORM's CARD OF 'abaculuslaw31.LassoFits'. -/
def lassoFitsUptoCard : Claim7 := { stood := { row := lassoFitsUptoRow, standIns := [], harness := (true, "86625144f3cfa0c839184e5f09597836d861f27968088393b9a501c47ad0da9f"), looks := false }, kinds := [], alts := [], laidByText := true, laidKinds := [.data], laidTests := true, laidLooks := .later }
def LassoFitsUptoCardSaid : Prop := Claim7.holds Tryz.pinned (.plain (OpenSpec.upto lassoFitsSpec)) lassoFitsUptoCard
end Rows
end Go.Proofs.YtgpglgbcobeogaaGreatDoor
