/-
  DERIVED. GIVEN WITH THE SEED: THE CARDS: each row of YtlkniebmjdoopaaGreatDoorRows.lean that lists a variable, with what it lists TIED to the program's text (the seventh form; the later family's looks); each row that meets fmt, with fmt's text TOLD by the authors' own Lean function (tested against real Go, not proved from fmt's source: count such statements apart). THE CARD IS WHAT COUNTS. Prove the row's statement (the work); the ties are given (YtlkniebmjdoopaaGreatDoorTie.lean); close each card by the builder's one call (the guide's Derived/Test/ToyasCard.lean, 'card_holds'). Laid BY PROGRAM, IN A SANDBOX (cutbox-door.mjs). By AI agents, Wed Nov 11 2026. No macro, syntax, notation, axiom, sorry.
-/
import Derived.Test.YtlkniebmjdoopaaGreatDoorRows
import GoSem.ClaimSeven
namespace Go.Proofs.YtlkniebmjdoopaaGreatDoor
namespace Rows

/-- THE TIED CARD OF 'abaculuslaw14.SturmRoots'. -/
def sturmRootsCard : Claim7 := { stood := { row := sturmRootsRow, standIns := [], harness := (true, "1dd9ff075cbc700dfbda576c3aff65c4c544c55d9c3da0ea33edd014aa908b98"), looks := false }, kinds := [], alts := [], laidByText := true, laidKinds := [.data], laidTests := true, laidLooks := .later }
def SturmRootsCardSaid : Prop := Claim7.holds Tryz.pinned (.plain (OpenSpec.ofChange sturmRootsSpec)) sturmRootsCard

/-- THE TIED CARD OF 'abaculuslaw14.SturmTells'. -/
def sturmTellsCard : Claim7 := { stood := { row := sturmTellsRow, standIns := [], harness := (true, "1dd9ff075cbc700dfbda576c3aff65c4c544c55d9c3da0ea33edd014aa908b98"), looks := false }, kinds := [], alts := [], laidByText := true, laidKinds := [.data], laidTests := true, laidLooks := .later }
def SturmTellsCardSaid : Prop := Claim7.holds Tryz.pinned (.plain (OpenSpec.ofChange sturmTellsSpec)) sturmTellsCard

/-- THE TIED CARD OF 'abaculuslaw14.SturmNarrows'. -/
def sturmNarrowsCard : Claim7 := { stood := { row := sturmNarrowsRow, standIns := [], harness := (true, "1dd9ff075cbc700dfbda576c3aff65c4c544c55d9c3da0ea33edd014aa908b98"), looks := false }, kinds := [], alts := [], laidByText := true, laidKinds := [.data], laidTests := true, laidLooks := .later }
def SturmNarrowsCardSaid : Prop := Claim7.holds Tryz.pinned (.plain (OpenSpec.ofChange sturmNarrowsSpec)) sturmNarrowsCard

/-- THE TIED CARD OF 'abaculuslaw14.SturmKnown'. -/
def sturmKnownCard : Claim7 := { stood := { row := sturmKnownRow, standIns := [], harness := (true, "1dd9ff075cbc700dfbda576c3aff65c4c544c55d9c3da0ea33edd014aa908b98"), looks := false }, kinds := [], alts := [], laidByText := true, laidKinds := [.data], laidTests := true, laidLooks := .later }
def SturmKnownCardSaid : Prop := Claim7.holds Tryz.pinned (.plain (OpenSpec.ofChange sturmKnownSpec)) sturmKnownCard

/-- THE TIED CARD OF 'abaculuslaw14.SturmParts'. -/
def sturmPartsCard : Claim7 := { stood := { row := sturmPartsRow, standIns := [], harness := (true, "1dd9ff075cbc700dfbda576c3aff65c4c544c55d9c3da0ea33edd014aa908b98"), looks := false }, kinds := [], alts := [], laidByText := true, laidKinds := [.data], laidTests := true, laidLooks := .later }
def SturmPartsCardSaid : Prop := Claim7.holds Tryz.pinned (.plain (OpenSpec.ofChange sturmPartsSpec)) sturmPartsCard

/-- THE SECOND FORM's CARD OF 'abaculuslaw14.SturmRoots'. -/
def sturmRootsUptoCard : Claim7 := { stood := { row := sturmRootsUptoRow, standIns := [], harness := (true, "1dd9ff075cbc700dfbda576c3aff65c4c544c55d9c3da0ea33edd014aa908b98"), looks := false }, kinds := [], alts := [], laidByText := true, laidKinds := [.data], laidTests := true, laidLooks := .later }
def SturmRootsUptoCardSaid : Prop := Claim7.holds Tryz.pinned (.plain (OpenSpec.upto sturmRootsSpec)) sturmRootsUptoCard

/-- THE SECOND FORM's CARD OF 'abaculuslaw14.SturmTells'. -/
def sturmTellsUptoCard : Claim7 := { stood := { row := sturmTellsUptoRow, standIns := [], harness := (true, "1dd9ff075cbc700dfbda576c3aff65c4c544c55d9c3da0ea33edd014aa908b98"), looks := false }, kinds := [], alts := [], laidByText := true, laidKinds := [.data], laidTests := true, laidLooks := .later }
def SturmTellsUptoCardSaid : Prop := Claim7.holds Tryz.pinned (.plain (OpenSpec.upto sturmTellsSpec)) sturmTellsUptoCard

/-- THE SECOND FORM's CARD OF 'abaculuslaw14.SturmNarrows'. -/
def sturmNarrowsUptoCard : Claim7 := { stood := { row := sturmNarrowsUptoRow, standIns := [], harness := (true, "1dd9ff075cbc700dfbda576c3aff65c4c544c55d9c3da0ea33edd014aa908b98"), looks := false }, kinds := [], alts := [], laidByText := true, laidKinds := [.data], laidTests := true, laidLooks := .later }
def SturmNarrowsUptoCardSaid : Prop := Claim7.holds Tryz.pinned (.plain (OpenSpec.upto sturmNarrowsSpec)) sturmNarrowsUptoCard

/-- THE SECOND FORM's CARD OF 'abaculuslaw14.SturmKnown'. -/
def sturmKnownUptoCard : Claim7 := { stood := { row := sturmKnownUptoRow, standIns := [], harness := (true, "1dd9ff075cbc700dfbda576c3aff65c4c544c55d9c3da0ea33edd014aa908b98"), looks := false }, kinds := [], alts := [], laidByText := true, laidKinds := [.data], laidTests := true, laidLooks := .later }
def SturmKnownUptoCardSaid : Prop := Claim7.holds Tryz.pinned (.plain (OpenSpec.upto sturmKnownSpec)) sturmKnownUptoCard

/-- THE SECOND FORM's CARD OF 'abaculuslaw14.SturmParts'. -/
def sturmPartsUptoCard : Claim7 := { stood := { row := sturmPartsUptoRow, standIns := [], harness := (true, "1dd9ff075cbc700dfbda576c3aff65c4c544c55d9c3da0ea33edd014aa908b98"), looks := false }, kinds := [], alts := [], laidByText := true, laidKinds := [.data], laidTests := true, laidLooks := .later }
def SturmPartsUptoCardSaid : Prop := Claim7.holds Tryz.pinned (.plain (OpenSpec.upto sturmPartsSpec)) sturmPartsUptoCard
end Rows
end Go.Proofs.YtlkniebmjdoopaaGreatDoor
