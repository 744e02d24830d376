/-
  DERIVED. GIVEN WITH THE SEED: THE CARDS: each row of YtimjnkfcnpfoeaaGreatDoorRows.lean that lists a variable, with what it lists TIED to the program's text (the seventh form; the later family's looks); each row that meets fmt, with fmt's text TOLD by the authors' own Lean function (tested against real Go, not proved from fmt's source: count such statements apart). THE CARD IS WHAT COUNTS. Prove the row's statement (the work); the ties are given (YtimjnkfcnpfoeaaGreatDoorTie.lean); close each card by the builder's one call (the guide's Derived/Test/ToyasCard.lean, 'card_holds'). Laid BY PROGRAM, IN A SANDBOX (cutbox-door.mjs). By AI agents, Wed Nov 11 2026. No macro, syntax, notation, axiom, sorry.
-/
import Derived.Test.YtimjnkfcnpfoeaaGreatDoorRows
import GoSem.ClaimSeven
namespace Go.Proofs.YtimjnkfcnpfoeaaGreatDoor
namespace Rows

/-- THE TIED CARD OF 'abaculuslaw9.ScoreClasses'. -/
def scoreClassesCard : Claim7 := { stood := { row := scoreClassesRow, standIns := [], harness := (true, "cee04bc228100e0cc246a3523e74ac08c7fefbcef8836cef4a0d8303098f7b98"), looks := false }, kinds := [], alts := [], laidByText := true, laidKinds := [.data], laidTests := true, laidLooks := .later }
def ScoreClassesCardSaid : Prop := Claim7.holds Tryz.pinned (.plain (OpenSpec.ofChange scoreClassesSpec)) scoreClassesCard

/-- THE TIED CARD OF 'abaculuslaw9.ScoreTables'. -/
def scoreTablesCard : Claim7 := { stood := { row := scoreTablesRow, standIns := [], harness := (true, "cee04bc228100e0cc246a3523e74ac08c7fefbcef8836cef4a0d8303098f7b98"), looks := false }, kinds := [], alts := [], laidByText := true, laidKinds := [.data], laidTests := true, laidLooks := .later }
def ScoreTablesCardSaid : Prop := Claim7.holds Tryz.pinned (.plain (OpenSpec.ofChange scoreTablesSpec)) scoreTablesCard

/-- THE TIED CARD OF 'abaculuslaw9.ScoreValues'. -/
def scoreValuesCard : Claim7 := { stood := { row := scoreValuesRow, standIns := [], harness := (true, "cee04bc228100e0cc246a3523e74ac08c7fefbcef8836cef4a0d8303098f7b98"), looks := false }, kinds := [], alts := [], laidByText := true, laidKinds := [.data], laidTests := true, laidLooks := .later }
def ScoreValuesCardSaid : Prop := Claim7.holds Tryz.pinned (.plain (OpenSpec.ofChange scoreValuesSpec)) scoreValuesCard

/-- THE TIED CARD OF 'abaculuslaw9.ScoreKnown'. -/
def scoreKnownCard : Claim7 := { stood := { row := scoreKnownRow, standIns := [], harness := (true, "cee04bc228100e0cc246a3523e74ac08c7fefbcef8836cef4a0d8303098f7b98"), looks := false }, kinds := [], alts := [], laidByText := true, laidKinds := [.data], laidTests := true, laidLooks := .later }
def ScoreKnownCardSaid : Prop := Claim7.holds Tryz.pinned (.plain (OpenSpec.ofChange scoreKnownSpec)) scoreKnownCard

/-- THE TIED CARD OF 'abaculuslaw9.ScoreArea'. -/
def scoreAreaCard : Claim7 := { stood := { row := scoreAreaRow, standIns := [], harness := (true, "cee04bc228100e0cc246a3523e74ac08c7fefbcef8836cef4a0d8303098f7b98"), looks := false }, kinds := [], alts := [], laidByText := true, laidKinds := [.data], laidTests := true, laidLooks := .later }
def ScoreAreaCardSaid : Prop := Claim7.holds Tryz.pinned (.plain (OpenSpec.ofChange scoreAreaSpec)) scoreAreaCard

/-- THE TIED CARD OF 'abaculuslaw9.ScoreLeast'. -/
def scoreLeastCard : Claim7 := { stood := { row := scoreLeastRow, standIns := [], harness := (true, "cee04bc228100e0cc246a3523e74ac08c7fefbcef8836cef4a0d8303098f7b98"), looks := false }, kinds := [], alts := [], laidByText := true, laidKinds := [.data], laidTests := true, laidLooks := .later }
def ScoreLeastCardSaid : Prop := Claim7.holds Tryz.pinned (.plain (OpenSpec.ofChange scoreLeastSpec)) scoreLeastCard

/-- THE TIED CARD OF 'abaculuslaw9.ScoreCurves'. -/
def scoreCurvesCard : Claim7 := { stood := { row := scoreCurvesRow, standIns := [], harness := (true, "cee04bc228100e0cc246a3523e74ac08c7fefbcef8836cef4a0d8303098f7b98"), looks := false }, kinds := [], alts := [], laidByText := true, laidKinds := [.data], laidTests := true, laidLooks := .later }
def ScoreCurvesCardSaid : Prop := Claim7.holds Tryz.pinned (.plain (OpenSpec.ofChange scoreCurvesSpec)) scoreCurvesCard

/-- THE SECOND FORM's CARD OF 'abaculuslaw9.ScoreClasses'. -/
def scoreClassesUptoCard : Claim7 := { stood := { row := scoreClassesUptoRow, standIns := [], harness := (true, "cee04bc228100e0cc246a3523e74ac08c7fefbcef8836cef4a0d8303098f7b98"), looks := false }, kinds := [], alts := [], laidByText := true, laidKinds := [.data], laidTests := true, laidLooks := .later }
def ScoreClassesUptoCardSaid : Prop := Claim7.holds Tryz.pinned (.plain (OpenSpec.upto scoreClassesSpec)) scoreClassesUptoCard

/-- THE SECOND FORM's CARD OF 'abaculuslaw9.ScoreTables'. -/
def scoreTablesUptoCard : Claim7 := { stood := { row := scoreTablesUptoRow, standIns := [], harness := (true, "cee04bc228100e0cc246a3523e74ac08c7fefbcef8836cef4a0d8303098f7b98"), looks := false }, kinds := [], alts := [], laidByText := true, laidKinds := [.data], laidTests := true, laidLooks := .later }
def ScoreTablesUptoCardSaid : Prop := Claim7.holds Tryz.pinned (.plain (OpenSpec.upto scoreTablesSpec)) scoreTablesUptoCard

/-- THE SECOND FORM's CARD OF 'abaculuslaw9.ScoreValues'. -/
def scoreValuesUptoCard : Claim7 := { stood := { row := scoreValuesUptoRow, standIns := [], harness := (true, "cee04bc228100e0cc246a3523e74ac08c7fefbcef8836cef4a0d8303098f7b98"), looks := false }, kinds := [], alts := [], laidByText := true, laidKinds := [.data], laidTests := true, laidLooks := .later }
def ScoreValuesUptoCardSaid : Prop := Claim7.holds Tryz.pinned (.plain (OpenSpec.upto scoreValuesSpec)) scoreValuesUptoCard

/-- THE SECOND FORM's CARD OF 'abaculuslaw9.ScoreKnown'. -/
def scoreKnownUptoCard : Claim7 := { stood := { row := scoreKnownUptoRow, standIns := [], harness := (true, "cee04bc228100e0cc246a3523e74ac08c7fefbcef8836cef4a0d8303098f7b98"), looks := false }, kinds := [], alts := [], laidByText := true, laidKinds := [.data], laidTests := true, laidLooks := .later }
def ScoreKnownUptoCardSaid : Prop := Claim7.holds Tryz.pinned (.plain (OpenSpec.upto scoreKnownSpec)) scoreKnownUptoCard

/-- THE SECOND FORM's CARD OF 'abaculuslaw9.ScoreArea'. -/
def scoreAreaUptoCard : Claim7 := { stood := { row := scoreAreaUptoRow, standIns := [], harness := (true, "cee04bc228100e0cc246a3523e74ac08c7fefbcef8836cef4a0d8303098f7b98"), looks := false }, kinds := [], alts := [], laidByText := true, laidKinds := [.data], laidTests := true, laidLooks := .later }
def ScoreAreaUptoCardSaid : Prop := Claim7.holds Tryz.pinned (.plain (OpenSpec.upto scoreAreaSpec)) scoreAreaUptoCard

/-- THE SECOND FORM's CARD OF 'abaculuslaw9.ScoreLeast'. -/
def scoreLeastUptoCard : Claim7 := { stood := { row := scoreLeastUptoRow, standIns := [], harness := (true, "cee04bc228100e0cc246a3523e74ac08c7fefbcef8836cef4a0d8303098f7b98"), looks := false }, kinds := [], alts := [], laidByText := true, laidKinds := [.data], laidTests := true, laidLooks := .later }
def ScoreLeastUptoCardSaid : Prop := Claim7.holds Tryz.pinned (.plain (OpenSpec.upto scoreLeastSpec)) scoreLeastUptoCard

/-- THE SECOND FORM's CARD OF 'abaculuslaw9.ScoreCurves'. -/
def scoreCurvesUptoCard : Claim7 := { stood := { row := scoreCurvesUptoRow, standIns := [], harness := (true, "cee04bc228100e0cc246a3523e74ac08c7fefbcef8836cef4a0d8303098f7b98"), looks := false }, kinds := [], alts := [], laidByText := true, laidKinds := [.data], laidTests := true, laidLooks := .later }
def ScoreCurvesUptoCardSaid : Prop := Claim7.holds Tryz.pinned (.plain (OpenSpec.upto scoreCurvesSpec)) scoreCurvesUptoCard
end Rows
end Go.Proofs.YtimjnkfcnpfoeaaGreatDoor
