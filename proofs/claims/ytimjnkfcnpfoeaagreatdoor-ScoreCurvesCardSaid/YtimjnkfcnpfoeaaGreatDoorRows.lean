/-
  NARROWER THAN 'FOR EVERY INPUT', by the rows' own cells (each row's printed sentence says how): ScoreClasses: laid · ScoreTables: laid · ScoreValues: laid · ScoreKnown: laid · ScoreArea: laid · ScoreLeast: laid · ScoreCurves: laid.
  DERIVED. THE GIVEN ROWS OF THIS SEAT. 7 by the template 'for every input the law returns true; each argument reads behind the call as it read before'; 0 by the template 'total and deterministic' (their statements: YtimjnkfcnpfoeaaGreatDoorTotals.lean).
  GIVEN WITH THE SEED: the statements are not yours to turn. If you find one false, say at which input.
  Laid BY PROGRAM, IN A SANDBOX (cutbox-rows.mjs): the forced cells as the released guide's own fill.sh prints them over the translation d60427d59fc3c4da… (all of the seat's roots in one cut). By AI agents, Wed Nov 11 2026. No macro, syntax, notation, axiom, sorry.
-/
import Derived.Test.YtimjnkfcnpfoeaaGreatDoorChecked
import GoSem.Claim
import GoSem.ClaimJoined
import GoSem.ClaimMapViews
import Derived.JoinedTies
import Derived.KernelRfl
namespace Go.Proofs.YtimjnkfcnpfoeaaGreatDoor
/- THE CELL 'sum', in the pinned program and in every row, IS THE sha256 OF THE DUMP (.gsa) THAT YtimjnkfcnpfoeaaGreatDoorProg.lean LOADS. Nothing in Lean hashes anything: it is a label: what it is worth is what the hold of that sum in a sandbox is worth. -/
noncomputable def Tryz.pinned : Pinned := { name := "ytimjnkfcnpfoeaagreatdoor", sum := "d60427d59fc3c4dabbd7d89410c029f8c14f1d0e6984479ea85637395e02d1ff", checked := Tryz.checked }
namespace Rows
def none {H : Type} : Left H := { results := [], args := [] }

/- WHAT THE LISTED PACKAGE-LEVEL VARIABLES READ AS WHEN THE CALL BEGINS. Each datum BY PROGRAM (the guide's laid-datum.mjs) off the statement by which the dump's own 'gosem.cut.vars' lays the variable. In a bare row this is a premise. The card (YtimjnkfcnpfoeaaGreatDoorCards.lean) ties it to the program's text. -/
def laid_math_bits_deBruijn64tab {H : Type} : DataW H := .agg [.lit (.int .u8 0), .lit (.int .u8 1), .lit (.int .u8 56), .lit (.int .u8 2), .lit (.int .u8 57), .lit (.int .u8 49), .lit (.int .u8 28), .lit (.int .u8 3), .lit (.int .u8 61), .lit (.int .u8 58), .lit (.int .u8 42), .lit (.int .u8 50), .lit (.int .u8 38), .lit (.int .u8 29), .lit (.int .u8 17), .lit (.int .u8 4), .lit (.int .u8 62), .lit (.int .u8 47), .lit (.int .u8 59), .lit (.int .u8 36), .lit (.int .u8 45), .lit (.int .u8 43), .lit (.int .u8 51), .lit (.int .u8 22), .lit (.int .u8 53), .lit (.int .u8 39), .lit (.int .u8 33), .lit (.int .u8 30), .lit (.int .u8 24), .lit (.int .u8 18), .lit (.int .u8 12), .lit (.int .u8 5), .lit (.int .u8 63), .lit (.int .u8 55), .lit (.int .u8 48), .lit (.int .u8 27), .lit (.int .u8 60), .lit (.int .u8 41), .lit (.int .u8 37), .lit (.int .u8 16), .lit (.int .u8 46), .lit (.int .u8 35), .lit (.int .u8 44), .lit (.int .u8 21), .lit (.int .u8 52), .lit (.int .u8 32), .lit (.int .u8 23), .lit (.int .u8 11), .lit (.int .u8 54), .lit (.int .u8 26), .lit (.int .u8 40), .lit (.int .u8 15), .lit (.int .u8 34), .lit (.int .u8 20), .lit (.int .u8 31), .lit (.int .u8 10), .lit (.int .u8 25), .lit (.int .u8 14), .lit (.int .u8 19), .lit (.int .u8 9), .lit (.int .u8 13), .lit (.int .u8 8), .lit (.int .u8 7), .lit (.int .u8 6)]

/-- 'abaculuslaw9.ScoreClasses': WHATEVER THE INPUT: true; the input reads as it did. -/
def scoreClassesSpec : ChangeSpec := { name := "scoreClasses", fn := fun _ => fun
  | [d1, d2, d3, d4, d5, d6] => { results := [.lit (.bool true)], args := [d1, d2, d3, d4, d5, d6] }
  | _ => none }
def scoreClassesRow : OpenClaim := { program := "ytimjnkfcnpfoeaagreatdoor", sum := "d60427d59fc3c4dabbd7d89410c029f8c14f1d0e6984479ea85637395e02d1ff", func := "abaculus/abaculuslaw9.ScoreClasses", spec := "scoreClasses", inPlace := ["internal/abi.NoEscape", "internal/bytealg.MakeNoZero", "math/bits.Add64", "math/bits.Sub64"], unfollowed := true, recurses := true, named := ["math/bits.divideError", "math/bits.overflowError", "math/bits.deBruijn64tab"], apart := false, laid := [("math/bits.deBruijn64tab", laid_math_bits_deBruijn64tab)] }
def ScoreClassesSaid : Prop := scoreClassesRow.holds Tryz.pinned (OpenSpec.ofChange scoreClassesSpec)

/-- ITS FALSE NEIGHBOUR: 'it returns false'. Refute it at one input. -/
def scoreClassesWrong : ChangeSpec := { name := "scoreClasses", fn := fun _ => fun
  | [d1, d2, d3, d4, d5, d6] => { results := [.lit (.bool false)], args := [d1, d2, d3, d4, d5, d6] }
  | _ => none }
def ScoreClassesWrongFalsely : Prop := scoreClassesRow.holds Tryz.pinned (OpenSpec.ofChange scoreClassesWrong)

/-- 'abaculuslaw9.ScoreTables': WHATEVER THE INPUT: true; the input reads as it did. -/
def scoreTablesSpec : ChangeSpec := { name := "scoreTables", fn := fun _ => fun
  | [d1, d2, d3, d4] => { results := [.lit (.bool true)], args := [d1, d2, d3, d4] }
  | _ => none }
def scoreTablesRow : OpenClaim := { program := "ytimjnkfcnpfoeaagreatdoor", sum := "d60427d59fc3c4dabbd7d89410c029f8c14f1d0e6984479ea85637395e02d1ff", func := "abaculus/abaculuslaw9.ScoreTables", spec := "scoreTables", inPlace := ["internal/abi.NoEscape", "internal/bytealg.MakeNoZero", "math/bits.Add64", "math/bits.Sub64"], unfollowed := true, recurses := true, named := ["math/bits.divideError", "math/bits.overflowError", "math/bits.deBruijn64tab"], apart := false, laid := [("math/bits.deBruijn64tab", laid_math_bits_deBruijn64tab)] }
def ScoreTablesSaid : Prop := scoreTablesRow.holds Tryz.pinned (OpenSpec.ofChange scoreTablesSpec)

/-- ITS FALSE NEIGHBOUR: 'it returns false'. Refute it at one input. -/
def scoreTablesWrong : ChangeSpec := { name := "scoreTables", fn := fun _ => fun
  | [d1, d2, d3, d4] => { results := [.lit (.bool false)], args := [d1, d2, d3, d4] }
  | _ => none }
def ScoreTablesWrongFalsely : Prop := scoreTablesRow.holds Tryz.pinned (OpenSpec.ofChange scoreTablesWrong)

/-- 'abaculuslaw9.ScoreValues': WHATEVER THE INPUT: true; the input reads as it did. -/
def scoreValuesSpec : ChangeSpec := { name := "scoreValues", fn := fun _ => fun
  | [d1, d2, d3] => { results := [.lit (.bool true)], args := [d1, d2, d3] }
  | _ => none }
def scoreValuesRow : OpenClaim := { program := "ytimjnkfcnpfoeaagreatdoor", sum := "d60427d59fc3c4dabbd7d89410c029f8c14f1d0e6984479ea85637395e02d1ff", func := "abaculus/abaculuslaw9.ScoreValues", spec := "scoreValues", inPlace := ["internal/abi.NoEscape", "internal/bytealg.MakeNoZero", "math/bits.Add64", "math/bits.Sub64"], unfollowed := true, recurses := true, named := ["math/bits.divideError", "math/bits.overflowError", "math/bits.deBruijn64tab"], apart := false, laid := [("math/bits.deBruijn64tab", laid_math_bits_deBruijn64tab)] }
def ScoreValuesSaid : Prop := scoreValuesRow.holds Tryz.pinned (OpenSpec.ofChange scoreValuesSpec)

/-- ITS FALSE NEIGHBOUR: 'it returns false'. Refute it at one input. -/
def scoreValuesWrong : ChangeSpec := { name := "scoreValues", fn := fun _ => fun
  | [d1, d2, d3] => { results := [.lit (.bool false)], args := [d1, d2, d3] }
  | _ => none }
def ScoreValuesWrongFalsely : Prop := scoreValuesRow.holds Tryz.pinned (OpenSpec.ofChange scoreValuesWrong)

/-- 'abaculuslaw9.ScoreKnown': WHATEVER THE INPUT: true; the input reads as it did. -/
def scoreKnownSpec : ChangeSpec := { name := "scoreKnown", fn := fun _ => fun
  | [] => { results := [.lit (.bool true)], args := [] }
  | _ => none }
def scoreKnownRow : OpenClaim := { program := "ytimjnkfcnpfoeaagreatdoor", sum := "d60427d59fc3c4dabbd7d89410c029f8c14f1d0e6984479ea85637395e02d1ff", func := "abaculus/abaculuslaw9.ScoreKnown", spec := "scoreKnown", inPlace := ["internal/abi.NoEscape", "internal/bytealg.MakeNoZero", "math/bits.Add64", "math/bits.Sub64"], unfollowed := true, recurses := true, named := ["math/bits.divideError", "math/bits.overflowError", "math/bits.deBruijn64tab"], apart := false, laid := [("math/bits.deBruijn64tab", laid_math_bits_deBruijn64tab)] }
def ScoreKnownSaid : Prop := scoreKnownRow.holds Tryz.pinned (OpenSpec.ofChange scoreKnownSpec)

/-- ITS FALSE NEIGHBOUR: 'it returns false'. Refute it at one input. -/
def scoreKnownWrong : ChangeSpec := { name := "scoreKnown", fn := fun _ => fun
  | [] => { results := [.lit (.bool false)], args := [] }
  | _ => none }
def ScoreKnownWrongFalsely : Prop := scoreKnownRow.holds Tryz.pinned (OpenSpec.ofChange scoreKnownWrong)

/-- 'abaculuslaw9.ScoreArea': WHATEVER THE INPUT: true; the input reads as it did. -/
def scoreAreaSpec : ChangeSpec := { name := "scoreArea", fn := fun _ => fun
  | [d1, d2, d3, d4] => { results := [.lit (.bool true)], args := [d1, d2, d3, d4] }
  | _ => none }
def scoreAreaRow : OpenClaim := { program := "ytimjnkfcnpfoeaagreatdoor", sum := "d60427d59fc3c4dabbd7d89410c029f8c14f1d0e6984479ea85637395e02d1ff", func := "abaculus/abaculuslaw9.ScoreArea", spec := "scoreArea", inPlace := ["internal/abi.NoEscape", "internal/bytealg.MakeNoZero", "math/bits.Add64", "math/bits.Sub64"], unfollowed := true, recurses := true, named := ["math/bits.divideError", "math/bits.overflowError", "math/bits.deBruijn64tab"], apart := false, laid := [("math/bits.deBruijn64tab", laid_math_bits_deBruijn64tab)] }
def ScoreAreaSaid : Prop := scoreAreaRow.holds Tryz.pinned (OpenSpec.ofChange scoreAreaSpec)

/-- ITS FALSE NEIGHBOUR: 'it returns false'. Refute it at one input. -/
def scoreAreaWrong : ChangeSpec := { name := "scoreArea", fn := fun _ => fun
  | [d1, d2, d3, d4] => { results := [.lit (.bool false)], args := [d1, d2, d3, d4] }
  | _ => none }
def ScoreAreaWrongFalsely : Prop := scoreAreaRow.holds Tryz.pinned (OpenSpec.ofChange scoreAreaWrong)

/-- 'abaculuslaw9.ScoreLeast': WHATEVER THE INPUT: true; the input reads as it did. -/
def scoreLeastSpec : ChangeSpec := { name := "scoreLeast", fn := fun _ => fun
  | [d1, d2] => { results := [.lit (.bool true)], args := [d1, d2] }
  | _ => none }
def scoreLeastRow : OpenClaim := { program := "ytimjnkfcnpfoeaagreatdoor", sum := "d60427d59fc3c4dabbd7d89410c029f8c14f1d0e6984479ea85637395e02d1ff", func := "abaculus/abaculuslaw9.ScoreLeast", spec := "scoreLeast", inPlace := ["internal/abi.NoEscape", "internal/bytealg.MakeNoZero", "math/bits.Add64", "math/bits.Sub64"], unfollowed := true, recurses := true, named := ["math/bits.divideError", "math/bits.overflowError", "math/bits.deBruijn64tab"], apart := false, laid := [("math/bits.deBruijn64tab", laid_math_bits_deBruijn64tab)] }
def ScoreLeastSaid : Prop := scoreLeastRow.holds Tryz.pinned (OpenSpec.ofChange scoreLeastSpec)

/-- ITS FALSE NEIGHBOUR: 'it returns false'. Refute it at one input. -/
def scoreLeastWrong : ChangeSpec := { name := "scoreLeast", fn := fun _ => fun
  | [d1, d2] => { results := [.lit (.bool false)], args := [d1, d2] }
  | _ => none }
def ScoreLeastWrongFalsely : Prop := scoreLeastRow.holds Tryz.pinned (OpenSpec.ofChange scoreLeastWrong)

/-- 'abaculuslaw9.ScoreCurves': WHATEVER THE INPUT: true; the input reads as it did. -/
def scoreCurvesSpec : ChangeSpec := { name := "scoreCurves", fn := fun _ => fun
  | [d1, d2, d3, d4, d5] => { results := [.lit (.bool true)], args := [d1, d2, d3, d4, d5] }
  | _ => none }
def scoreCurvesRow : OpenClaim := { program := "ytimjnkfcnpfoeaagreatdoor", sum := "d60427d59fc3c4dabbd7d89410c029f8c14f1d0e6984479ea85637395e02d1ff", func := "abaculus/abaculuslaw9.ScoreCurves", spec := "scoreCurves", inPlace := ["internal/abi.NoEscape", "internal/bytealg.MakeNoZero", "math/bits.Add64", "math/bits.Sub64"], unfollowed := true, recurses := true, named := ["math/bits.divideError", "math/bits.overflowError", "math/bits.deBruijn64tab"], apart := false, laid := [("math/bits.deBruijn64tab", laid_math_bits_deBruijn64tab)] }
def ScoreCurvesSaid : Prop := scoreCurvesRow.holds Tryz.pinned (OpenSpec.ofChange scoreCurvesSpec)

/-- ITS FALSE NEIGHBOUR: 'it returns false'. Refute it at one input. -/
def scoreCurvesWrong : ChangeSpec := { name := "scoreCurves", fn := fun _ => fun
  | [d1, d2, d3, d4, d5] => { results := [.lit (.bool false)], args := [d1, d2, d3, d4, d5] }
  | _ => none }
def ScoreCurvesWrongFalsely : Prop := scoreCurvesRow.holds Tryz.pinned (OpenSpec.ofChange scoreCurvesWrong)

/- THE SECOND FORM. 'bulk': how many values and letters a reading holds, each counted each time it is reached (what is shared counts as often as it is met; a slice's spare places count too). A statement '..UptoSaid' is the law's where the arguments, and the package variables that the reading takes, are together of bulk at most 1048576: NARROWER than '..Said'. Prove '..Said' where nothing that the law and all that it calls make is longer than what came in: it says more and counts as full. Else prove '..UptoSaid'. A law counts once. -/
mutual
def uptoBulk {H : Type} : DataW H → Nat
  | .lit (.string bytes) => bytes.length + 1
  | .lit _ => 1
  | .nil => 1
  | .ptr d => uptoBulk d + 1
  | .slice elems spare => uptoBulkAll elems + uptoBulkAll spare + 1
  | .agg parts => uptoBulkAll parts + 1
  | .iface _ d => uptoBulk d + 1
  | .map entries => uptoBulkEntries entries + 1
  | .held _ => 1
def uptoBulkAll {H : Type} : List (DataW H) → Nat
  | [] => 0
  | d :: r => uptoBulk d + uptoBulkAll r
def uptoBulkEntries {H : Type} : List (Lit × DataW H) → Nat
  | [] => 0
  | x :: r => uptoBulkEntry x + uptoBulkEntries r
def uptoBulkEntry {H : Type} : Lit × DataW H → Nat
  | (.string bytes, d) => bytes.length + uptoBulk d + 1
  | (_, d) => uptoBulk d + 1
 end
def uptoSmall : (H : Type) → List (DataW H) → Bool := fun _ ds => decide (uptoBulkAll ds ≤ 1048576)
def OpenSpec.upto (s : _root_.Go.ChangeSpec) : _root_.Go.OpenSpec := { _root_.Go.OpenSpec.ofChange s with cond := some uptoSmall }

/-- 'abaculuslaw9.ScoreClasses', WHERE WHAT IT READS IS OF BULK AT MOST 1048576: true; the input reads as it did. -/
def scoreClassesUptoRow : OpenClaim := { program := "ytimjnkfcnpfoeaagreatdoor", sum := "d60427d59fc3c4dabbd7d89410c029f8c14f1d0e6984479ea85637395e02d1ff", func := "abaculus/abaculuslaw9.ScoreClasses", spec := "scoreClasses", inPlace := ["internal/abi.NoEscape", "internal/bytealg.MakeNoZero", "math/bits.Add64", "math/bits.Sub64"], unfollowed := true, recurses := true, named := ["math/bits.divideError", "math/bits.overflowError", "math/bits.deBruijn64tab"], apart := false, laid := [("math/bits.deBruijn64tab", laid_math_bits_deBruijn64tab)], narrowed := true }
def ScoreClassesUptoSaid : Prop := scoreClassesUptoRow.holds Tryz.pinned (OpenSpec.upto scoreClassesSpec)

/-- 'abaculuslaw9.ScoreTables', WHERE WHAT IT READS IS OF BULK AT MOST 1048576: true; the input reads as it did. -/
def scoreTablesUptoRow : OpenClaim := { program := "ytimjnkfcnpfoeaagreatdoor", sum := "d60427d59fc3c4dabbd7d89410c029f8c14f1d0e6984479ea85637395e02d1ff", func := "abaculus/abaculuslaw9.ScoreTables", spec := "scoreTables", inPlace := ["internal/abi.NoEscape", "internal/bytealg.MakeNoZero", "math/bits.Add64", "math/bits.Sub64"], unfollowed := true, recurses := true, named := ["math/bits.divideError", "math/bits.overflowError", "math/bits.deBruijn64tab"], apart := false, laid := [("math/bits.deBruijn64tab", laid_math_bits_deBruijn64tab)], narrowed := true }
def ScoreTablesUptoSaid : Prop := scoreTablesUptoRow.holds Tryz.pinned (OpenSpec.upto scoreTablesSpec)

/-- 'abaculuslaw9.ScoreValues', WHERE WHAT IT READS IS OF BULK AT MOST 1048576: true; the input reads as it did. -/
def scoreValuesUptoRow : OpenClaim := { program := "ytimjnkfcnpfoeaagreatdoor", sum := "d60427d59fc3c4dabbd7d89410c029f8c14f1d0e6984479ea85637395e02d1ff", func := "abaculus/abaculuslaw9.ScoreValues", spec := "scoreValues", inPlace := ["internal/abi.NoEscape", "internal/bytealg.MakeNoZero", "math/bits.Add64", "math/bits.Sub64"], unfollowed := true, recurses := true, named := ["math/bits.divideError", "math/bits.overflowError", "math/bits.deBruijn64tab"], apart := false, laid := [("math/bits.deBruijn64tab", laid_math_bits_deBruijn64tab)], narrowed := true }
def ScoreValuesUptoSaid : Prop := scoreValuesUptoRow.holds Tryz.pinned (OpenSpec.upto scoreValuesSpec)

/-- 'abaculuslaw9.ScoreKnown', WHERE WHAT IT READS IS OF BULK AT MOST 1048576: true; the input reads as it did. -/
def scoreKnownUptoRow : OpenClaim := { program := "ytimjnkfcnpfoeaagreatdoor", sum := "d60427d59fc3c4dabbd7d89410c029f8c14f1d0e6984479ea85637395e02d1ff", func := "abaculus/abaculuslaw9.ScoreKnown", spec := "scoreKnown", inPlace := ["internal/abi.NoEscape", "internal/bytealg.MakeNoZero", "math/bits.Add64", "math/bits.Sub64"], unfollowed := true, recurses := true, named := ["math/bits.divideError", "math/bits.overflowError", "math/bits.deBruijn64tab"], apart := false, laid := [("math/bits.deBruijn64tab", laid_math_bits_deBruijn64tab)], narrowed := true }
def ScoreKnownUptoSaid : Prop := scoreKnownUptoRow.holds Tryz.pinned (OpenSpec.upto scoreKnownSpec)

/-- 'abaculuslaw9.ScoreArea', WHERE WHAT IT READS IS OF BULK AT MOST 1048576: true; the input reads as it did. -/
def scoreAreaUptoRow : OpenClaim := { program := "ytimjnkfcnpfoeaagreatdoor", sum := "d60427d59fc3c4dabbd7d89410c029f8c14f1d0e6984479ea85637395e02d1ff", func := "abaculus/abaculuslaw9.ScoreArea", spec := "scoreArea", inPlace := ["internal/abi.NoEscape", "internal/bytealg.MakeNoZero", "math/bits.Add64", "math/bits.Sub64"], unfollowed := true, recurses := true, named := ["math/bits.divideError", "math/bits.overflowError", "math/bits.deBruijn64tab"], apart := false, laid := [("math/bits.deBruijn64tab", laid_math_bits_deBruijn64tab)], narrowed := true }
def ScoreAreaUptoSaid : Prop := scoreAreaUptoRow.holds Tryz.pinned (OpenSpec.upto scoreAreaSpec)

/-- 'abaculuslaw9.ScoreLeast', WHERE WHAT IT READS IS OF BULK AT MOST 1048576: true; the input reads as it did. -/
def scoreLeastUptoRow : OpenClaim := { program := "ytimjnkfcnpfoeaagreatdoor", sum := "d60427d59fc3c4dabbd7d89410c029f8c14f1d0e6984479ea85637395e02d1ff", func := "abaculus/abaculuslaw9.ScoreLeast", spec := "scoreLeast", inPlace := ["internal/abi.NoEscape", "internal/bytealg.MakeNoZero", "math/bits.Add64", "math/bits.Sub64"], unfollowed := true, recurses := true, named := ["math/bits.divideError", "math/bits.overflowError", "math/bits.deBruijn64tab"], apart := false, laid := [("math/bits.deBruijn64tab", laid_math_bits_deBruijn64tab)], narrowed := true }
def ScoreLeastUptoSaid : Prop := scoreLeastUptoRow.holds Tryz.pinned (OpenSpec.upto scoreLeastSpec)

/-- 'abaculuslaw9.ScoreCurves', WHERE WHAT IT READS IS OF BULK AT MOST 1048576: true; the input reads as it did. -/
def scoreCurvesUptoRow : OpenClaim := { program := "ytimjnkfcnpfoeaagreatdoor", sum := "d60427d59fc3c4dabbd7d89410c029f8c14f1d0e6984479ea85637395e02d1ff", func := "abaculus/abaculuslaw9.ScoreCurves", spec := "scoreCurves", inPlace := ["internal/abi.NoEscape", "internal/bytealg.MakeNoZero", "math/bits.Add64", "math/bits.Sub64"], unfollowed := true, recurses := true, named := ["math/bits.divideError", "math/bits.overflowError", "math/bits.deBruijn64tab"], apart := false, laid := [("math/bits.deBruijn64tab", laid_math_bits_deBruijn64tab)], narrowed := true }
def ScoreCurvesUptoSaid : Prop := scoreCurvesUptoRow.holds Tryz.pinned (OpenSpec.upto scoreCurvesSpec)

end Rows
end Go.Proofs.YtimjnkfcnpfoeaaGreatDoor
