/-
  DERIVED. GIVEN WITH THE SEED: THE CARDS: each row of YtjmopgepnndckaaGreatDoorRows.lean that lists a variable, with what it lists TIED to the program's text (the seventh form; the later family's looks); each row that meets fmt, with fmt's text TOLD by the authors' own Lean function (tested against real Go, not proved from fmt's source: count such statements apart). THE CARD IS WHAT COUNTS. Prove the row's statement (the work); the ties are given (YtjmopgepnndckaaGreatDoorTie.lean); close each card by the builder's one call (the guide's Derived/Test/ToyasCard.lean, 'card_holds'). Laid BY PROGRAM, IN A SANDBOX (cutbox-door.mjs). By AI agents, Wed Nov 11 2026. No macro, syntax, notation, axiom, sorry.
-/
import Derived.Test.YtjmopgepnndckaaGreatDoorRows
import GoSem.ClaimSeven
namespace Go.Proofs.YtjmopgepnndckaaGreatDoor
namespace Rows

/-- THE TIED CARD OF 'abaculuslaw23.NearPlain'. -/
def nearPlainCard : Claim7 := { stood := { row := nearPlainRow, standIns := [], harness := (true, "b763e42bd333eb93b109d712e89b423805376ef15e88c23c12a789eeab84d8e4"), looks := false }, kinds := [], alts := [], laidByText := true, laidKinds := [.data], laidTests := true, laidLooks := .later }
def NearPlainCardSaid : Prop := Claim7.holds Tryz.pinned (.plain (OpenSpec.ofChange nearPlainSpec)) nearPlainCard

/-- THE TIED CARD OF 'abaculuslaw23.NearVotes'. -/
def nearVotesCard : Claim7 := { stood := { row := nearVotesRow, standIns := [], harness := (true, "b763e42bd333eb93b109d712e89b423805376ef15e88c23c12a789eeab84d8e4"), looks := false }, kinds := [], alts := [], laidByText := true, laidKinds := [.data], laidTests := true, laidLooks := .later }
def NearVotesCardSaid : Prop := Claim7.holds Tryz.pinned (.plain (OpenSpec.ofChange nearVotesSpec)) nearVotesCard

/-- THE TIED CARD OF 'abaculuslaw23.NearChecks'. -/
def nearChecksCard : Claim7 := { stood := { row := nearChecksRow, standIns := [], harness := (true, "b763e42bd333eb93b109d712e89b423805376ef15e88c23c12a789eeab84d8e4"), looks := false }, kinds := [], alts := [], laidByText := true, laidKinds := [.data], laidTests := true, laidLooks := .later }
def NearChecksCardSaid : Prop := Claim7.holds Tryz.pinned (.plain (OpenSpec.ofChange nearChecksSpec)) nearChecksCard

/-- THE TIED CARD OF 'abaculuslaw23.NearStays'. -/
def nearStaysCard : Claim7 := { stood := { row := nearStaysRow, standIns := [], harness := (true, "b763e42bd333eb93b109d712e89b423805376ef15e88c23c12a789eeab84d8e4"), looks := false }, kinds := [], alts := [], laidByText := true, laidKinds := [.data], laidTests := true, laidLooks := .later }
def NearStaysCardSaid : Prop := Claim7.holds Tryz.pinned (.plain (OpenSpec.ofChange nearStaysSpec)) nearStaysCard

/-- THE TIED CARD OF 'abaculuslaw23.NearBuilds'. -/
def nearBuildsCard : Claim7 := { stood := { row := nearBuildsRow, standIns := [], harness := (true, "b763e42bd333eb93b109d712e89b423805376ef15e88c23c12a789eeab84d8e4"), looks := false }, kinds := [], alts := [], laidByText := true, laidKinds := [.data], laidTests := true, laidLooks := .later }
def NearBuildsCardSaid : Prop := Claim7.holds Tryz.pinned (.plain (OpenSpec.ofChange nearBuildsSpec)) nearBuildsCard

/-- THE TIED CARD OF 'abaculuslaw23.NearTrees'. -/
def nearTreesCard : Claim7 := { stood := { row := nearTreesRow, standIns := [], harness := (true, "b763e42bd333eb93b109d712e89b423805376ef15e88c23c12a789eeab84d8e4"), looks := false }, kinds := [], alts := [], laidByText := true, laidKinds := [.data], laidTests := true, laidLooks := .later }
def NearTreesCardSaid : Prop := Claim7.holds Tryz.pinned (.plain (OpenSpec.ofChange nearTreesSpec)) nearTreesCard

/-- THE TIED CARD OF 'abaculuslaw23.NearWithin'. -/
def nearWithinCard : Claim7 := { stood := { row := nearWithinRow, standIns := [], harness := (true, "b763e42bd333eb93b109d712e89b423805376ef15e88c23c12a789eeab84d8e4"), looks := false }, kinds := [], alts := [], laidByText := true, laidKinds := [.data], laidTests := true, laidLooks := .later }
def NearWithinCardSaid : Prop := Claim7.holds Tryz.pinned (.plain (OpenSpec.ofChange nearWithinSpec)) nearWithinCard

/-- THE TIED CARD OF 'abaculuslaw23.NearOrder'. -/
def nearOrderCard : Claim7 := { stood := { row := nearOrderRow, standIns := [], harness := (true, "b763e42bd333eb93b109d712e89b423805376ef15e88c23c12a789eeab84d8e4"), looks := false }, kinds := [], alts := [], laidByText := true, laidKinds := [.data], laidTests := true, laidLooks := .later }
def NearOrderCardSaid : Prop := Claim7.holds Tryz.pinned (.plain (OpenSpec.ofChange nearOrderSpec)) nearOrderCard

/-- THE TIED CARD OF 'abaculuslaw23.NearKnown'. -/
def nearKnownCard : Claim7 := { stood := { row := nearKnownRow, standIns := [], harness := (true, "b763e42bd333eb93b109d712e89b423805376ef15e88c23c12a789eeab84d8e4"), looks := false }, kinds := [], alts := [], laidByText := true, laidKinds := [.data], laidTests := true, laidLooks := .later }
def NearKnownCardSaid : Prop := Claim7.holds Tryz.pinned (.plain (OpenSpec.ofChange nearKnownSpec)) nearKnownCard

/-- THE SECOND FORM's CARD OF 'abaculuslaw23.NearPlain'. -/
def nearPlainUptoCard : Claim7 := { stood := { row := nearPlainUptoRow, standIns := [], harness := (true, "b763e42bd333eb93b109d712e89b423805376ef15e88c23c12a789eeab84d8e4"), looks := false }, kinds := [], alts := [], laidByText := true, laidKinds := [.data], laidTests := true, laidLooks := .later }
def NearPlainUptoCardSaid : Prop := Claim7.holds Tryz.pinned (.plain (OpenSpec.upto nearPlainSpec)) nearPlainUptoCard

/-- THE SECOND FORM's CARD OF 'abaculuslaw23.NearVotes'. -/
def nearVotesUptoCard : Claim7 := { stood := { row := nearVotesUptoRow, standIns := [], harness := (true, "b763e42bd333eb93b109d712e89b423805376ef15e88c23c12a789eeab84d8e4"), looks := false }, kinds := [], alts := [], laidByText := true, laidKinds := [.data], laidTests := true, laidLooks := .later }
def NearVotesUptoCardSaid : Prop := Claim7.holds Tryz.pinned (.plain (OpenSpec.upto nearVotesSpec)) nearVotesUptoCard

/-- THE SECOND FORM's CARD OF 'abaculuslaw23.NearChecks'. -/
def nearChecksUptoCard : Claim7 := { stood := { row := nearChecksUptoRow, standIns := [], harness := (true, "b763e42bd333eb93b109d712e89b423805376ef15e88c23c12a789eeab84d8e4"), looks := false }, kinds := [], alts := [], laidByText := true, laidKinds := [.data], laidTests := true, laidLooks := .later }
def NearChecksUptoCardSaid : Prop := Claim7.holds Tryz.pinned (.plain (OpenSpec.upto nearChecksSpec)) nearChecksUptoCard

/-- THE SECOND FORM's CARD OF 'abaculuslaw23.NearStays'. -/
def nearStaysUptoCard : Claim7 := { stood := { row := nearStaysUptoRow, standIns := [], harness := (true, "b763e42bd333eb93b109d712e89b423805376ef15e88c23c12a789eeab84d8e4"), looks := false }, kinds := [], alts := [], laidByText := true, laidKinds := [.data], laidTests := true, laidLooks := .later }
def NearStaysUptoCardSaid : Prop := Claim7.holds Tryz.pinned (.plain (OpenSpec.upto nearStaysSpec)) nearStaysUptoCard

/-- THE SECOND FORM's CARD OF 'abaculuslaw23.NearBuilds'. -/
def nearBuildsUptoCard : Claim7 := { stood := { row := nearBuildsUptoRow, standIns := [], harness := (true, "b763e42bd333eb93b109d712e89b423805376ef15e88c23c12a789eeab84d8e4"), looks := false }, kinds := [], alts := [], laidByText := true, laidKinds := [.data], laidTests := true, laidLooks := .later }
def NearBuildsUptoCardSaid : Prop := Claim7.holds Tryz.pinned (.plain (OpenSpec.upto nearBuildsSpec)) nearBuildsUptoCard

/-- THE SECOND FORM's CARD OF 'abaculuslaw23.NearTrees'. -/
def nearTreesUptoCard : Claim7 := { stood := { row := nearTreesUptoRow, standIns := [], harness := (true, "b763e42bd333eb93b109d712e89b423805376ef15e88c23c12a789eeab84d8e4"), looks := false }, kinds := [], alts := [], laidByText := true, laidKinds := [.data], laidTests := true, laidLooks := .later }
def NearTreesUptoCardSaid : Prop := Claim7.holds Tryz.pinned (.plain (OpenSpec.upto nearTreesSpec)) nearTreesUptoCard

/-- THE SECOND FORM's CARD OF 'abaculuslaw23.NearWithin'. -/
def nearWithinUptoCard : Claim7 := { stood := { row := nearWithinUptoRow, standIns := [], harness := (true, "b763e42bd333eb93b109d712e89b423805376ef15e88c23c12a789eeab84d8e4"), looks := false }, kinds := [], alts := [], laidByText := true, laidKinds := [.data], laidTests := true, laidLooks := .later }
def NearWithinUptoCardSaid : Prop := Claim7.holds Tryz.pinned (.plain (OpenSpec.upto nearWithinSpec)) nearWithinUptoCard

/-- THE SECOND FORM's CARD OF 'abaculuslaw23.NearOrder'. -/
def nearOrderUptoCard : Claim7 := { stood := { row := nearOrderUptoRow, standIns := [], harness := (true, "b763e42bd333eb93b109d712e89b423805376ef15e88c23c12a789eeab84d8e4"), looks := false }, kinds := [], alts := [], laidByText := true, laidKinds := [.data], laidTests := true, laidLooks := .later }
def NearOrderUptoCardSaid : Prop := Claim7.holds Tryz.pinned (.plain (OpenSpec.upto nearOrderSpec)) nearOrderUptoCard

/-- THE SECOND FORM's CARD OF 'abaculuslaw23.NearKnown'. -/
def nearKnownUptoCard : Claim7 := { stood := { row := nearKnownUptoRow, standIns := [], harness := (true, "b763e42bd333eb93b109d712e89b423805376ef15e88c23c12a789eeab84d8e4"), looks := false }, kinds := [], alts := [], laidByText := true, laidKinds := [.data], laidTests := true, laidLooks := .later }
def NearKnownUptoCardSaid : Prop := Claim7.holds Tryz.pinned (.plain (OpenSpec.upto nearKnownSpec)) nearKnownUptoCard
end Rows
end Go.Proofs.YtjmopgepnndckaaGreatDoor
