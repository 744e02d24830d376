/-
  NARROWER THAN 'FOR EVERY INPUT', by the rows' own cells (each row's printed sentence says how): LassoLeast: laid · LassoUnits: laid · LassoTells: laid · LassoAt: laid · LassoWide: laid · LassoKnots: laid · LassoPaths: laid · LassoKnown: laid · LassoFits: laid.
  DERIVED. THE GIVEN ROWS OF THIS SEAT. 9 by the template 'for every input the law returns true; each argument reads behind the call as it read before'; 0 by the template 'total and deterministic' (their statements: YtgpglgbcobeogaaGreatDoorTotals.lean).
  GIVEN WITH THE SEED: the statements are not yours to turn. If you find one false, say at which input.
  Laid BY PROGRAM, IN A SANDBOX (cutbox-rows.mjs): the forced cells as the released guide's own fill.sh prints them over the translation 9a7363b5fb771a3c… (all of the seat's roots in one cut). By AI agents, Wed Nov 11 2026. No macro, syntax, notation, axiom, sorry.
-/
import Derived.Test.YtgpglgbcobeogaaGreatDoorChecked
import GoSem.Claim
import GoSem.ClaimJoined
import GoSem.ClaimMapViews
import Derived.JoinedTies
import Derived.KernelRfl
namespace Go.Proofs.YtgpglgbcobeogaaGreatDoor
/- THE CELL 'sum', in the pinned program and in every row, IS THE sha256 OF THE DUMP (.gsa) THAT YtgpglgbcobeogaaGreatDoorProg.lean LOADS. Nothing in Lean hashes anything: it is a label: what it is worth is what the hold of that sum in a sandbox is worth. -/
noncomputable def Tryz.pinned : Pinned := { name := "ytgpglgbcobeogaagreatdoor", sum := "9a7363b5fb771a3c5f28c468c816525683045a16165a0b70c6849df9b60f031f", checked := Tryz.checked }
namespace Rows
def none {H : Type} : Left H := { results := [], args := [] }

/- WHAT THE LISTED PACKAGE-LEVEL VARIABLES READ AS WHEN THE CALL BEGINS. Each datum BY PROGRAM (the guide's laid-datum.mjs) off the statement by which the dump's own 'gosem.cut.vars' lays the variable. In a bare row this is a premise. The card (YtgpglgbcobeogaaGreatDoorCards.lean) ties it to the program's text. -/
def laid_math_bits_deBruijn64tab {H : Type} : DataW H := .agg [.lit (.int .u8 0), .lit (.int .u8 1), .lit (.int .u8 56), .lit (.int .u8 2), .lit (.int .u8 57), .lit (.int .u8 49), .lit (.int .u8 28), .lit (.int .u8 3), .lit (.int .u8 61), .lit (.int .u8 58), .lit (.int .u8 42), .lit (.int .u8 50), .lit (.int .u8 38), .lit (.int .u8 29), .lit (.int .u8 17), .lit (.int .u8 4), .lit (.int .u8 62), .lit (.int .u8 47), .lit (.int .u8 59), .lit (.int .u8 36), .lit (.int .u8 45), .lit (.int .u8 43), .lit (.int .u8 51), .lit (.int .u8 22), .lit (.int .u8 53), .lit (.int .u8 39), .lit (.int .u8 33), .lit (.int .u8 30), .lit (.int .u8 24), .lit (.int .u8 18), .lit (.int .u8 12), .lit (.int .u8 5), .lit (.int .u8 63), .lit (.int .u8 55), .lit (.int .u8 48), .lit (.int .u8 27), .lit (.int .u8 60), .lit (.int .u8 41), .lit (.int .u8 37), .lit (.int .u8 16), .lit (.int .u8 46), .lit (.int .u8 35), .lit (.int .u8 44), .lit (.int .u8 21), .lit (.int .u8 52), .lit (.int .u8 32), .lit (.int .u8 23), .lit (.int .u8 11), .lit (.int .u8 54), .lit (.int .u8 26), .lit (.int .u8 40), .lit (.int .u8 15), .lit (.int .u8 34), .lit (.int .u8 20), .lit (.int .u8 31), .lit (.int .u8 10), .lit (.int .u8 25), .lit (.int .u8 14), .lit (.int .u8 19), .lit (.int .u8 9), .lit (.int .u8 13), .lit (.int .u8 8), .lit (.int .u8 7), .lit (.int .u8 6)]

/-- 'abaculuslaw31.LassoLeast': WHATEVER THE INPUT: true; the input reads as it did. -/
def lassoLeastSpec : ChangeSpec := { name := "lassoLeast", fn := fun _ => fun
  | [d1, d2, d3, d4, d5, d6] => { results := [.lit (.bool true)], args := [d1, d2, d3, d4, d5, d6] }
  | _ => none }
def lassoLeastRow : OpenClaim := { program := "ytgpglgbcobeogaagreatdoor", sum := "9a7363b5fb771a3c5f28c468c816525683045a16165a0b70c6849df9b60f031f", func := "abaculus/abaculuslaw31.LassoLeast", spec := "lassoLeast", inPlace := ["internal/abi.NoEscape", "internal/bytealg.MakeNoZero", "math/bits.Add64", "math/bits.Sub64"], unfollowed := true, recurses := true, named := ["math/bits.divideError", "math/bits.overflowError", "math/bits.deBruijn64tab"], apart := false, laid := [("math/bits.deBruijn64tab", laid_math_bits_deBruijn64tab)] }
def LassoLeastSaid : Prop := lassoLeastRow.holds Tryz.pinned (OpenSpec.ofChange lassoLeastSpec)

/-- ITS FALSE NEIGHBOUR: 'it returns false'. Refute it at one input. -/
def lassoLeastWrong : ChangeSpec := { name := "lassoLeast", fn := fun _ => fun
  | [d1, d2, d3, d4, d5, d6] => { results := [.lit (.bool false)], args := [d1, d2, d3, d4, d5, d6] }
  | _ => none }
def LassoLeastWrongFalsely : Prop := lassoLeastRow.holds Tryz.pinned (OpenSpec.ofChange lassoLeastWrong)

/-- 'abaculuslaw31.LassoUnits': WHATEVER THE INPUT: true; the input reads as it did. -/
def lassoUnitsSpec : ChangeSpec := { name := "lassoUnits", fn := fun _ => fun
  | [d1, d2, d3, d4, d5, d6] => { results := [.lit (.bool true)], args := [d1, d2, d3, d4, d5, d6] }
  | _ => none }
def lassoUnitsRow : OpenClaim := { program := "ytgpglgbcobeogaagreatdoor", sum := "9a7363b5fb771a3c5f28c468c816525683045a16165a0b70c6849df9b60f031f", func := "abaculus/abaculuslaw31.LassoUnits", spec := "lassoUnits", inPlace := ["internal/abi.NoEscape", "internal/bytealg.MakeNoZero", "math/bits.Add64", "math/bits.Sub64"], unfollowed := true, recurses := true, named := ["math/bits.divideError", "math/bits.overflowError", "math/bits.deBruijn64tab"], apart := false, laid := [("math/bits.deBruijn64tab", laid_math_bits_deBruijn64tab)] }
def LassoUnitsSaid : Prop := lassoUnitsRow.holds Tryz.pinned (OpenSpec.ofChange lassoUnitsSpec)

/-- ITS FALSE NEIGHBOUR: 'it returns false'. Refute it at one input. -/
def lassoUnitsWrong : ChangeSpec := { name := "lassoUnits", fn := fun _ => fun
  | [d1, d2, d3, d4, d5, d6] => { results := [.lit (.bool false)], args := [d1, d2, d3, d4, d5, d6] }
  | _ => none }
def LassoUnitsWrongFalsely : Prop := lassoUnitsRow.holds Tryz.pinned (OpenSpec.ofChange lassoUnitsWrong)

/-- 'abaculuslaw31.LassoTells': WHATEVER THE INPUT: true; the input reads as it did. -/
def lassoTellsSpec : ChangeSpec := { name := "lassoTells", fn := fun _ => fun
  | [d1, d2, d3, d4, d5, d6, d7, d8] => { results := [.lit (.bool true)], args := [d1, d2, d3, d4, d5, d6, d7, d8] }
  | _ => none }
def lassoTellsRow : OpenClaim := { program := "ytgpglgbcobeogaagreatdoor", sum := "9a7363b5fb771a3c5f28c468c816525683045a16165a0b70c6849df9b60f031f", func := "abaculus/abaculuslaw31.LassoTells", spec := "lassoTells", inPlace := ["internal/abi.NoEscape", "internal/bytealg.MakeNoZero", "math/bits.Add64", "math/bits.Sub64"], unfollowed := true, recurses := true, named := ["math/bits.divideError", "math/bits.overflowError", "math/bits.deBruijn64tab"], apart := false, laid := [("math/bits.deBruijn64tab", laid_math_bits_deBruijn64tab)] }
def LassoTellsSaid : Prop := lassoTellsRow.holds Tryz.pinned (OpenSpec.ofChange lassoTellsSpec)

/-- ITS FALSE NEIGHBOUR: 'it returns false'. Refute it at one input. -/
def lassoTellsWrong : ChangeSpec := { name := "lassoTells", fn := fun _ => fun
  | [d1, d2, d3, d4, d5, d6, d7, d8] => { results := [.lit (.bool false)], args := [d1, d2, d3, d4, d5, d6, d7, d8] }
  | _ => none }
def LassoTellsWrongFalsely : Prop := lassoTellsRow.holds Tryz.pinned (OpenSpec.ofChange lassoTellsWrong)

/-- 'abaculuslaw31.LassoAt': WHATEVER THE INPUT: true; the input reads as it did. -/
def lassoAtSpec : ChangeSpec := { name := "lassoAt", fn := fun _ => fun
  | [d1, d2, d3, d4, d5, d6, d7] => { results := [.lit (.bool true)], args := [d1, d2, d3, d4, d5, d6, d7] }
  | _ => none }
def lassoAtRow : OpenClaim := { program := "ytgpglgbcobeogaagreatdoor", sum := "9a7363b5fb771a3c5f28c468c816525683045a16165a0b70c6849df9b60f031f", func := "abaculus/abaculuslaw31.LassoAt", spec := "lassoAt", inPlace := ["internal/abi.NoEscape", "internal/bytealg.MakeNoZero", "math/bits.Add64", "math/bits.Sub64"], unfollowed := true, recurses := true, named := ["math/bits.divideError", "math/bits.overflowError", "math/bits.deBruijn64tab"], apart := false, laid := [("math/bits.deBruijn64tab", laid_math_bits_deBruijn64tab)] }
def LassoAtSaid : Prop := lassoAtRow.holds Tryz.pinned (OpenSpec.ofChange lassoAtSpec)

/-- ITS FALSE NEIGHBOUR: 'it returns false'. Refute it at one input. -/
def lassoAtWrong : ChangeSpec := { name := "lassoAt", fn := fun _ => fun
  | [d1, d2, d3, d4, d5, d6, d7] => { results := [.lit (.bool false)], args := [d1, d2, d3, d4, d5, d6, d7] }
  | _ => none }
def LassoAtWrongFalsely : Prop := lassoAtRow.holds Tryz.pinned (OpenSpec.ofChange lassoAtWrong)

/-- 'abaculuslaw31.LassoWide': WHATEVER THE INPUT: true; the input reads as it did. -/
def lassoWideSpec : ChangeSpec := { name := "lassoWide", fn := fun _ => fun
  | [d1, d2] => { results := [.lit (.bool true)], args := [d1, d2] }
  | _ => none }
def lassoWideRow : OpenClaim := { program := "ytgpglgbcobeogaagreatdoor", sum := "9a7363b5fb771a3c5f28c468c816525683045a16165a0b70c6849df9b60f031f", func := "abaculus/abaculuslaw31.LassoWide", spec := "lassoWide", inPlace := ["internal/abi.NoEscape", "internal/bytealg.MakeNoZero", "math/bits.Add64", "math/bits.Sub64"], unfollowed := true, recurses := true, named := ["math/bits.divideError", "math/bits.overflowError", "math/bits.deBruijn64tab"], apart := false, laid := [("math/bits.deBruijn64tab", laid_math_bits_deBruijn64tab)] }
def LassoWideSaid : Prop := lassoWideRow.holds Tryz.pinned (OpenSpec.ofChange lassoWideSpec)

/-- ITS FALSE NEIGHBOUR: 'it returns false'. Refute it at one input. -/
def lassoWideWrong : ChangeSpec := { name := "lassoWide", fn := fun _ => fun
  | [d1, d2] => { results := [.lit (.bool false)], args := [d1, d2] }
  | _ => none }
def LassoWideWrongFalsely : Prop := lassoWideRow.holds Tryz.pinned (OpenSpec.ofChange lassoWideWrong)

/-- 'abaculuslaw31.LassoKnots': WHATEVER THE INPUT: true; the input reads as it did. -/
def lassoKnotsSpec : ChangeSpec := { name := "lassoKnots", fn := fun _ => fun
  | [d1, d2, d3, d4] => { results := [.lit (.bool true)], args := [d1, d2, d3, d4] }
  | _ => none }
def lassoKnotsRow : OpenClaim := { program := "ytgpglgbcobeogaagreatdoor", sum := "9a7363b5fb771a3c5f28c468c816525683045a16165a0b70c6849df9b60f031f", func := "abaculus/abaculuslaw31.LassoKnots", spec := "lassoKnots", inPlace := ["internal/abi.NoEscape", "internal/bytealg.MakeNoZero", "math/bits.Add64", "math/bits.Sub64"], unfollowed := true, recurses := true, named := ["math/bits.divideError", "math/bits.overflowError", "math/bits.deBruijn64tab"], apart := false, laid := [("math/bits.deBruijn64tab", laid_math_bits_deBruijn64tab)] }
def LassoKnotsSaid : Prop := lassoKnotsRow.holds Tryz.pinned (OpenSpec.ofChange lassoKnotsSpec)

/-- ITS FALSE NEIGHBOUR: 'it returns false'. Refute it at one input. -/
def lassoKnotsWrong : ChangeSpec := { name := "lassoKnots", fn := fun _ => fun
  | [d1, d2, d3, d4] => { results := [.lit (.bool false)], args := [d1, d2, d3, d4] }
  | _ => none }
def LassoKnotsWrongFalsely : Prop := lassoKnotsRow.holds Tryz.pinned (OpenSpec.ofChange lassoKnotsWrong)

/-- 'abaculuslaw31.LassoPaths': WHATEVER THE INPUT: true; the input reads as it did. -/
def lassoPathsSpec : ChangeSpec := { name := "lassoPaths", fn := fun _ => fun
  | [d1, d2, d3, d4, d5] => { results := [.lit (.bool true)], args := [d1, d2, d3, d4, d5] }
  | _ => none }
def lassoPathsRow : OpenClaim := { program := "ytgpglgbcobeogaagreatdoor", sum := "9a7363b5fb771a3c5f28c468c816525683045a16165a0b70c6849df9b60f031f", func := "abaculus/abaculuslaw31.LassoPaths", spec := "lassoPaths", inPlace := ["internal/abi.NoEscape", "internal/bytealg.MakeNoZero", "math/bits.Add64", "math/bits.Sub64"], unfollowed := true, recurses := true, named := ["math/bits.divideError", "math/bits.overflowError", "math/bits.deBruijn64tab"], apart := false, laid := [("math/bits.deBruijn64tab", laid_math_bits_deBruijn64tab)] }
def LassoPathsSaid : Prop := lassoPathsRow.holds Tryz.pinned (OpenSpec.ofChange lassoPathsSpec)

/-- ITS FALSE NEIGHBOUR: 'it returns false'. Refute it at one input. -/
def lassoPathsWrong : ChangeSpec := { name := "lassoPaths", fn := fun _ => fun
  | [d1, d2, d3, d4, d5] => { results := [.lit (.bool false)], args := [d1, d2, d3, d4, d5] }
  | _ => none }
def LassoPathsWrongFalsely : Prop := lassoPathsRow.holds Tryz.pinned (OpenSpec.ofChange lassoPathsWrong)

/-- 'abaculuslaw31.LassoKnown': WHATEVER THE INPUT: true; the input reads as it did. -/
def lassoKnownSpec : ChangeSpec := { name := "lassoKnown", fn := fun _ => fun
  | [] => { results := [.lit (.bool true)], args := [] }
  | _ => none }
def lassoKnownRow : OpenClaim := { program := "ytgpglgbcobeogaagreatdoor", sum := "9a7363b5fb771a3c5f28c468c816525683045a16165a0b70c6849df9b60f031f", func := "abaculus/abaculuslaw31.LassoKnown", spec := "lassoKnown", inPlace := ["internal/abi.NoEscape", "internal/bytealg.MakeNoZero", "math/bits.Add64", "math/bits.Sub64"], unfollowed := true, recurses := true, named := ["math/bits.divideError", "math/bits.overflowError", "math/bits.deBruijn64tab"], apart := false, laid := [("math/bits.deBruijn64tab", laid_math_bits_deBruijn64tab)] }
def LassoKnownSaid : Prop := lassoKnownRow.holds Tryz.pinned (OpenSpec.ofChange lassoKnownSpec)

/-- ITS FALSE NEIGHBOUR: 'it returns false'. Refute it at one input. -/
def lassoKnownWrong : ChangeSpec := { name := "lassoKnown", fn := fun _ => fun
  | [] => { results := [.lit (.bool false)], args := [] }
  | _ => none }
def LassoKnownWrongFalsely : Prop := lassoKnownRow.holds Tryz.pinned (OpenSpec.ofChange lassoKnownWrong)

/-- 'abaculuslaw31.LassoFits': WHATEVER THE INPUT: true; the input reads as it did. -/
def lassoFitsSpec : ChangeSpec := { name := "lassoFits", fn := fun _ => fun
  | [d1, d2, d3, d4, d5, d6] => { results := [.lit (.bool true)], args := [d1, d2, d3, d4, d5, d6] }
  | _ => none }
def lassoFitsRow : OpenClaim := { program := "ytgpglgbcobeogaagreatdoor", sum := "9a7363b5fb771a3c5f28c468c816525683045a16165a0b70c6849df9b60f031f", func := "abaculus/abaculuslaw31.LassoFits", spec := "lassoFits", inPlace := ["internal/abi.NoEscape", "internal/bytealg.MakeNoZero", "math/bits.Add64", "math/bits.Sub64"], unfollowed := true, recurses := true, named := ["math/bits.divideError", "math/bits.overflowError", "math/bits.deBruijn64tab"], apart := false, laid := [("math/bits.deBruijn64tab", laid_math_bits_deBruijn64tab)] }
def LassoFitsSaid : Prop := lassoFitsRow.holds Tryz.pinned (OpenSpec.ofChange lassoFitsSpec)

/-- ITS FALSE NEIGHBOUR: 'it returns false'. Refute it at one input. -/
def lassoFitsWrong : ChangeSpec := { name := "lassoFits", fn := fun _ => fun
  | [d1, d2, d3, d4, d5, d6] => { results := [.lit (.bool false)], args := [d1, d2, d3, d4, d5, d6] }
  | _ => none }
def LassoFitsWrongFalsely : Prop := lassoFitsRow.holds Tryz.pinned (OpenSpec.ofChange lassoFitsWrong)

/- THE SECOND FORM. 'bulk': how many values and letters a reading holds, each counted each time it is reached (what is shared counts as often as it is met; a slice's spare places count too). A statement '..UptoSaid' is the law's where the arguments, and the package variables that the reading takes, are together of bulk at most 1048576: NARROWER than '..Said'. Prove '..Said' where nothing that the law and all that it calls make is longer than what came in: it says more and counts as full. Else prove '..UptoSaid'. A law counts once. -/
mutual
def uptoBulk {H : Type} : DataW H → Nat
  | .lit (.string bytes) => bytes.length + 1
  | .lit _ => 1
  | .nil => 1
  | .ptr d => uptoBulk d + 1
  | .slice elems spare => uptoBulkAll elems + uptoBulkAll spare + 1
  | .agg parts => uptoBulkAll parts + 1
  | .iface _ d => uptoBulk d + 1
  | .map entries => uptoBulkEntries entries + 1
  | .held _ => 1
def uptoBulkAll {H : Type} : List (DataW H) → Nat
  | [] => 0
  | d :: r => uptoBulk d + uptoBulkAll r
def uptoBulkEntries {H : Type} : List (Lit × DataW H) → Nat
  | [] => 0
  | x :: r => uptoBulkEntry x + uptoBulkEntries r
def uptoBulkEntry {H : Type} : Lit × DataW H → Nat
  | (.string bytes, d) => bytes.length + uptoBulk d + 1
  | (_, d) => uptoBulk d + 1
 end
def uptoSmall : (H : Type) → List (DataW H) → Bool := fun _ ds => decide (uptoBulkAll ds ≤ 1048576)
def OpenSpec.upto (s : _root_.Go.ChangeSpec) : _root_.Go.OpenSpec := { _root_.Go.OpenSpec.ofChange s with cond := some uptoSmall }

/-- 'abaculuslaw31.LassoLeast', WHERE WHAT IT READS IS OF BULK AT MOST 1048576: true; the input reads as it did. -/
def lassoLeastUptoRow : OpenClaim := { program := "ytgpglgbcobeogaagreatdoor", sum := "9a7363b5fb771a3c5f28c468c816525683045a16165a0b70c6849df9b60f031f", func := "abaculus/abaculuslaw31.LassoLeast", spec := "lassoLeast", inPlace := ["internal/abi.NoEscape", "internal/bytealg.MakeNoZero", "math/bits.Add64", "math/bits.Sub64"], unfollowed := true, recurses := true, named := ["math/bits.divideError", "math/bits.overflowError", "math/bits.deBruijn64tab"], apart := false, laid := [("math/bits.deBruijn64tab", laid_math_bits_deBruijn64tab)], narrowed := true }
def LassoLeastUptoSaid : Prop := lassoLeastUptoRow.holds Tryz.pinned (OpenSpec.upto lassoLeastSpec)

/-- 'abaculuslaw31.LassoUnits', WHERE WHAT IT READS IS OF BULK AT MOST 1048576: true; the input reads as it did. -/
def lassoUnitsUptoRow : OpenClaim := { program := "ytgpglgbcobeogaagreatdoor", sum := "9a7363b5fb771a3c5f28c468c816525683045a16165a0b70c6849df9b60f031f", func := "abaculus/abaculuslaw31.LassoUnits", spec := "lassoUnits", inPlace := ["internal/abi.NoEscape", "internal/bytealg.MakeNoZero", "math/bits.Add64", "math/bits.Sub64"], unfollowed := true, recurses := true, named := ["math/bits.divideError", "math/bits.overflowError", "math/bits.deBruijn64tab"], apart := false, laid := [("math/bits.deBruijn64tab", laid_math_bits_deBruijn64tab)], narrowed := true }
def LassoUnitsUptoSaid : Prop := lassoUnitsUptoRow.holds Tryz.pinned (OpenSpec.upto lassoUnitsSpec)

/-- 'abaculuslaw31.LassoTells', WHERE WHAT IT READS IS OF BULK AT MOST 1048576: true; the input reads as it did. -/
def lassoTellsUptoRow : OpenClaim := { program := "ytgpglgbcobeogaagreatdoor", sum := "9a7363b5fb771a3c5f28c468c816525683045a16165a0b70c6849df9b60f031f", func := "abaculus/abaculuslaw31.LassoTells", spec := "lassoTells", inPlace := ["internal/abi.NoEscape", "internal/bytealg.MakeNoZero", "math/bits.Add64", "math/bits.Sub64"], unfollowed := true, recurses := true, named := ["math/bits.divideError", "math/bits.overflowError", "math/bits.deBruijn64tab"], apart := false, laid := [("math/bits.deBruijn64tab", laid_math_bits_deBruijn64tab)], narrowed := true }
def LassoTellsUptoSaid : Prop := lassoTellsUptoRow.holds Tryz.pinned (OpenSpec.upto lassoTellsSpec)

/-- 'abaculuslaw31.LassoAt', WHERE WHAT IT READS IS OF BULK AT MOST 1048576: true; the input reads as it did. -/
def lassoAtUptoRow : OpenClaim := { program := "ytgpglgbcobeogaagreatdoor", sum := "9a7363b5fb771a3c5f28c468c816525683045a16165a0b70c6849df9b60f031f", func := "abaculus/abaculuslaw31.LassoAt", spec := "lassoAt", inPlace := ["internal/abi.NoEscape", "internal/bytealg.MakeNoZero", "math/bits.Add64", "math/bits.Sub64"], unfollowed := true, recurses := true, named := ["math/bits.divideError", "math/bits.overflowError", "math/bits.deBruijn64tab"], apart := false, laid := [("math/bits.deBruijn64tab", laid_math_bits_deBruijn64tab)], narrowed := true }
def LassoAtUptoSaid : Prop := lassoAtUptoRow.holds Tryz.pinned (OpenSpec.upto lassoAtSpec)

/-- 'abaculuslaw31.LassoWide', WHERE WHAT IT READS IS OF BULK AT MOST 1048576: true; the input reads as it did. -/
def lassoWideUptoRow : OpenClaim := { program := "ytgpglgbcobeogaagreatdoor", sum := "9a7363b5fb771a3c5f28c468c816525683045a16165a0b70c6849df9b60f031f", func := "abaculus/abaculuslaw31.LassoWide", spec := "lassoWide", inPlace := ["internal/abi.NoEscape", "internal/bytealg.MakeNoZero", "math/bits.Add64", "math/bits.Sub64"], unfollowed := true, recurses := true, named := ["math/bits.divideError", "math/bits.overflowError", "math/bits.deBruijn64tab"], apart := false, laid := [("math/bits.deBruijn64tab", laid_math_bits_deBruijn64tab)], narrowed := true }
def LassoWideUptoSaid : Prop := lassoWideUptoRow.holds Tryz.pinned (OpenSpec.upto lassoWideSpec)

/-- 'abaculuslaw31.LassoKnots', WHERE WHAT IT READS IS OF BULK AT MOST 1048576: true; the input reads as it did. -/
def lassoKnotsUptoRow : OpenClaim := { program := "ytgpglgbcobeogaagreatdoor", sum := "9a7363b5fb771a3c5f28c468c816525683045a16165a0b70c6849df9b60f031f", func := "abaculus/abaculuslaw31.LassoKnots", spec := "lassoKnots", inPlace := ["internal/abi.NoEscape", "internal/bytealg.MakeNoZero", "math/bits.Add64", "math/bits.Sub64"], unfollowed := true, recurses := true, named := ["math/bits.divideError", "math/bits.overflowError", "math/bits.deBruijn64tab"], apart := false, laid := [("math/bits.deBruijn64tab", laid_math_bits_deBruijn64tab)], narrowed := true }
def LassoKnotsUptoSaid : Prop := lassoKnotsUptoRow.holds Tryz.pinned (OpenSpec.upto lassoKnotsSpec)

/-- 'abaculuslaw31.LassoPaths', WHERE WHAT IT READS IS OF BULK AT MOST 1048576: true; the input reads as it did. -/
def lassoPathsUptoRow : OpenClaim := { program := "ytgpglgbcobeogaagreatdoor", sum := "9a7363b5fb771a3c5f28c468c816525683045a16165a0b70c6849df9b60f031f", func := "abaculus/abaculuslaw31.LassoPaths", spec := "lassoPaths", inPlace := ["internal/abi.NoEscape", "internal/bytealg.MakeNoZero", "math/bits.Add64", "math/bits.Sub64"], unfollowed := true, recurses := true, named := ["math/bits.divideError", "math/bits.overflowError", "math/bits.deBruijn64tab"], apart := false, laid := [("math/bits.deBruijn64tab", laid_math_bits_deBruijn64tab)], narrowed := true }
def LassoPathsUptoSaid : Prop := lassoPathsUptoRow.holds Tryz.pinned (OpenSpec.upto lassoPathsSpec)

/-- 'abaculuslaw31.LassoKnown', WHERE WHAT IT READS IS OF BULK AT MOST 1048576: true; the input reads as it did. -/
def lassoKnownUptoRow : OpenClaim := { program := "ytgpglgbcobeogaagreatdoor", sum := "9a7363b5fb771a3c5f28c468c816525683045a16165a0b70c6849df9b60f031f", func := "abaculus/abaculuslaw31.LassoKnown", spec := "lassoKnown", inPlace := ["internal/abi.NoEscape", "internal/bytealg.MakeNoZero", "math/bits.Add64", "math/bits.Sub64"], unfollowed := true, recurses := true, named := ["math/bits.divideError", "math/bits.overflowError", "math/bits.deBruijn64tab"], apart := false, laid := [("math/bits.deBruijn64tab", laid_math_bits_deBruijn64tab)], narrowed := true }
def LassoKnownUptoSaid : Prop := lassoKnownUptoRow.holds Tryz.pinned (OpenSpec.upto lassoKnownSpec)

/-- 'abaculuslaw31.LassoFits', WHERE WHAT IT READS IS OF BULK AT MOST 1048576: true; the input reads as it did. -/
def lassoFitsUptoRow : OpenClaim := { program := "ytgpglgbcobeogaagreatdoor", sum := "9a7363b5fb771a3c5f28c468c816525683045a16165a0b70c6849df9b60f031f", func := "abaculus/abaculuslaw31.LassoFits", spec := "lassoFits", inPlace := ["internal/abi.NoEscape", "internal/bytealg.MakeNoZero", "math/bits.Add64", "math/bits.Sub64"], unfollowed := true, recurses := true, named := ["math/bits.divideError", "math/bits.overflowError", "math/bits.deBruijn64tab"], apart := false, laid := [("math/bits.deBruijn64tab", laid_math_bits_deBruijn64tab)], narrowed := true }
def LassoFitsUptoSaid : Prop := lassoFitsUptoRow.holds Tryz.pinned (OpenSpec.upto lassoFitsSpec)

end Rows
end Go.Proofs.YtgpglgbcobeogaaGreatDoor
