/-
  NARROWER THAN 'FOR EVERY INPUT', by the rows' own cells (each row's printed sentence says how): NearPlain: laid · NearVotes: laid · NearChecks: laid · NearStays: laid · NearBuilds: laid · NearTrees: laid · NearWithin: laid · NearOrder: laid · NearKnown: laid.
  DERIVED. THE GIVEN ROWS OF THIS SEAT. 9 by the template 'for every input the law returns true; each argument reads behind the call as it read before'; 0 by the template 'total and deterministic' (their statements: YtjmopgepnndckaaGreatDoorTotals.lean).
  GIVEN WITH THE SEED: the statements are not yours to turn. If you find one false, say at which input.
  Laid BY PROGRAM, IN A SANDBOX (cutbox-rows.mjs): the forced cells as the released guide's own fill.sh prints them over the translation 078a9ad969803308… (all of the seat's roots in one cut). By AI agents, Wed Nov 11 2026. No macro, syntax, notation, axiom, sorry.
-/
import Derived.Test.YtjmopgepnndckaaGreatDoorChecked
import GoSem.Claim
import GoSem.ClaimJoined
import GoSem.ClaimMapViews
import Derived.JoinedTies
import Derived.KernelRfl
namespace Go.Proofs.YtjmopgepnndckaaGreatDoor
/- THE CELL 'sum', in the pinned program and in every row, IS THE sha256 OF THE DUMP (.gsa) THAT YtjmopgepnndckaaGreatDoorProg.lean LOADS. Nothing in Lean hashes anything: it is a label: what it is worth is what the hold of that sum in a sandbox is worth. -/
noncomputable def Tryz.pinned : Pinned := { name := "ytjmopgepnndckaagreatdoor", sum := "078a9ad9698033085300a55df55b3958c557ed384618ac4f0283f5376e99f4a6", checked := Tryz.checked }
namespace Rows
def none {H : Type} : Left H := { results := [], args := [] }

/- WHAT THE LISTED PACKAGE-LEVEL VARIABLES READ AS WHEN THE CALL BEGINS. Each datum BY PROGRAM (the guide's laid-datum.mjs) off the statement by which the dump's own 'gosem.cut.vars' lays the variable. In a bare row this is a premise. The card (YtjmopgepnndckaaGreatDoorCards.lean) ties it to the program's text. -/
def laid_math_bits_deBruijn64tab {H : Type} : DataW H := .agg [.lit (.int .u8 0), .lit (.int .u8 1), .lit (.int .u8 56), .lit (.int .u8 2), .lit (.int .u8 57), .lit (.int .u8 49), .lit (.int .u8 28), .lit (.int .u8 3), .lit (.int .u8 61), .lit (.int .u8 58), .lit (.int .u8 42), .lit (.int .u8 50), .lit (.int .u8 38), .lit (.int .u8 29), .lit (.int .u8 17), .lit (.int .u8 4), .lit (.int .u8 62), .lit (.int .u8 47), .lit (.int .u8 59), .lit (.int .u8 36), .lit (.int .u8 45), .lit (.int .u8 43), .lit (.int .u8 51), .lit (.int .u8 22), .lit (.int .u8 53), .lit (.int .u8 39), .lit (.int .u8 33), .lit (.int .u8 30), .lit (.int .u8 24), .lit (.int .u8 18), .lit (.int .u8 12), .lit (.int .u8 5), .lit (.int .u8 63), .lit (.int .u8 55), .lit (.int .u8 48), .lit (.int .u8 27), .lit (.int .u8 60), .lit (.int .u8 41), .lit (.int .u8 37), .lit (.int .u8 16), .lit (.int .u8 46), .lit (.int .u8 35), .lit (.int .u8 44), .lit (.int .u8 21), .lit (.int .u8 52), .lit (.int .u8 32), .lit (.int .u8 23), .lit (.int .u8 11), .lit (.int .u8 54), .lit (.int .u8 26), .lit (.int .u8 40), .lit (.int .u8 15), .lit (.int .u8 34), .lit (.int .u8 20), .lit (.int .u8 31), .lit (.int .u8 10), .lit (.int .u8 25), .lit (.int .u8 14), .lit (.int .u8 19), .lit (.int .u8 9), .lit (.int .u8 13), .lit (.int .u8 8), .lit (.int .u8 7), .lit (.int .u8 6)]

/-- 'abaculuslaw23.NearPlain': WHATEVER THE INPUT: true; the input reads as it did. -/
def nearPlainSpec : ChangeSpec := { name := "nearPlain", fn := fun _ => fun
  | [d1, d2, d3, d4, d5, d6, d7] => { results := [.lit (.bool true)], args := [d1, d2, d3, d4, d5, d6, d7] }
  | _ => none }
def nearPlainRow : OpenClaim := { program := "ytjmopgepnndckaagreatdoor", sum := "078a9ad9698033085300a55df55b3958c557ed384618ac4f0283f5376e99f4a6", func := "abaculus/abaculuslaw23.NearPlain", spec := "nearPlain", inPlace := ["internal/abi.NoEscape", "internal/bytealg.MakeNoZero", "math/bits.Add64", "math/bits.Sub64"], unfollowed := true, recurses := true, named := ["math/bits.divideError", "math/bits.overflowError", "math/bits.deBruijn64tab"], apart := false, laid := [("math/bits.deBruijn64tab", laid_math_bits_deBruijn64tab)] }
def NearPlainSaid : Prop := nearPlainRow.holds Tryz.pinned (OpenSpec.ofChange nearPlainSpec)

/-- ITS FALSE NEIGHBOUR: 'it returns false'. Refute it at one input. -/
def nearPlainWrong : ChangeSpec := { name := "nearPlain", fn := fun _ => fun
  | [d1, d2, d3, d4, d5, d6, d7] => { results := [.lit (.bool false)], args := [d1, d2, d3, d4, d5, d6, d7] }
  | _ => none }
def NearPlainWrongFalsely : Prop := nearPlainRow.holds Tryz.pinned (OpenSpec.ofChange nearPlainWrong)

/-- 'abaculuslaw23.NearVotes': WHATEVER THE INPUT: true; the input reads as it did. -/
def nearVotesSpec : ChangeSpec := { name := "nearVotes", fn := fun _ => fun
  | [d1, d2, d3] => { results := [.lit (.bool true)], args := [d1, d2, d3] }
  | _ => none }
def nearVotesRow : OpenClaim := { program := "ytjmopgepnndckaagreatdoor", sum := "078a9ad9698033085300a55df55b3958c557ed384618ac4f0283f5376e99f4a6", func := "abaculus/abaculuslaw23.NearVotes", spec := "nearVotes", inPlace := ["internal/abi.NoEscape", "internal/bytealg.MakeNoZero", "math/bits.Add64", "math/bits.Sub64"], unfollowed := true, recurses := true, named := ["math/bits.divideError", "math/bits.overflowError", "math/bits.deBruijn64tab"], apart := false, laid := [("math/bits.deBruijn64tab", laid_math_bits_deBruijn64tab)] }
def NearVotesSaid : Prop := nearVotesRow.holds Tryz.pinned (OpenSpec.ofChange nearVotesSpec)

/-- ITS FALSE NEIGHBOUR: 'it returns false'. Refute it at one input. -/
def nearVotesWrong : ChangeSpec := { name := "nearVotes", fn := fun _ => fun
  | [d1, d2, d3] => { results := [.lit (.bool false)], args := [d1, d2, d3] }
  | _ => none }
def NearVotesWrongFalsely : Prop := nearVotesRow.holds Tryz.pinned (OpenSpec.ofChange nearVotesWrong)

/-- 'abaculuslaw23.NearChecks': WHATEVER THE INPUT: true; the input reads as it did. -/
def nearChecksSpec : ChangeSpec := { name := "nearChecks", fn := fun _ => fun
  | [d1, d2, d3, d4, d5, d6, d7] => { results := [.lit (.bool true)], args := [d1, d2, d3, d4, d5, d6, d7] }
  | _ => none }
def nearChecksRow : OpenClaim := { program := "ytjmopgepnndckaagreatdoor", sum := "078a9ad9698033085300a55df55b3958c557ed384618ac4f0283f5376e99f4a6", func := "abaculus/abaculuslaw23.NearChecks", spec := "nearChecks", inPlace := ["math/bits.Add64", "internal/abi.NoEscape", "internal/bytealg.MakeNoZero", "math/bits.Sub64"], unfollowed := true, recurses := true, named := ["math/bits.divideError", "math/bits.overflowError", "math/bits.deBruijn64tab"], apart := false, laid := [("math/bits.deBruijn64tab", laid_math_bits_deBruijn64tab)] }
def NearChecksSaid : Prop := nearChecksRow.holds Tryz.pinned (OpenSpec.ofChange nearChecksSpec)

/-- ITS FALSE NEIGHBOUR: 'it returns false'. Refute it at one input. -/
def nearChecksWrong : ChangeSpec := { name := "nearChecks", fn := fun _ => fun
  | [d1, d2, d3, d4, d5, d6, d7] => { results := [.lit (.bool false)], args := [d1, d2, d3, d4, d5, d6, d7] }
  | _ => none }
def NearChecksWrongFalsely : Prop := nearChecksRow.holds Tryz.pinned (OpenSpec.ofChange nearChecksWrong)

/-- 'abaculuslaw23.NearStays': WHATEVER THE INPUT: true; the input reads as it did. -/
def nearStaysSpec : ChangeSpec := { name := "nearStays", fn := fun _ => fun
  | [d1, d2, d3, d4] => { results := [.lit (.bool true)], args := [d1, d2, d3, d4] }
  | _ => none }
def nearStaysRow : OpenClaim := { program := "ytjmopgepnndckaagreatdoor", sum := "078a9ad9698033085300a55df55b3958c557ed384618ac4f0283f5376e99f4a6", func := "abaculus/abaculuslaw23.NearStays", spec := "nearStays", inPlace := ["math/bits.Add64", "internal/abi.NoEscape", "internal/bytealg.MakeNoZero", "math/bits.Sub64"], unfollowed := true, recurses := true, named := ["math/bits.divideError", "math/bits.overflowError", "math/bits.deBruijn64tab"], apart := false, laid := [("math/bits.deBruijn64tab", laid_math_bits_deBruijn64tab)] }
def NearStaysSaid : Prop := nearStaysRow.holds Tryz.pinned (OpenSpec.ofChange nearStaysSpec)

/-- ITS FALSE NEIGHBOUR: 'it returns false'. Refute it at one input. -/
def nearStaysWrong : ChangeSpec := { name := "nearStays", fn := fun _ => fun
  | [d1, d2, d3, d4] => { results := [.lit (.bool false)], args := [d1, d2, d3, d4] }
  | _ => none }
def NearStaysWrongFalsely : Prop := nearStaysRow.holds Tryz.pinned (OpenSpec.ofChange nearStaysWrong)

/-- 'abaculuslaw23.NearBuilds': WHATEVER THE INPUT: true; the input reads as it did. -/
def nearBuildsSpec : ChangeSpec := { name := "nearBuilds", fn := fun _ => fun
  | [d1, d2, d3, d4] => { results := [.lit (.bool true)], args := [d1, d2, d3, d4] }
  | _ => none }
def nearBuildsRow : OpenClaim := { program := "ytjmopgepnndckaagreatdoor", sum := "078a9ad9698033085300a55df55b3958c557ed384618ac4f0283f5376e99f4a6", func := "abaculus/abaculuslaw23.NearBuilds", spec := "nearBuilds", inPlace := ["internal/abi.NoEscape", "internal/bytealg.MakeNoZero", "math/bits.Add64", "math/bits.Sub64"], unfollowed := true, recurses := true, named := ["math/bits.divideError", "math/bits.overflowError", "math/bits.deBruijn64tab"], apart := false, laid := [("math/bits.deBruijn64tab", laid_math_bits_deBruijn64tab)] }
def NearBuildsSaid : Prop := nearBuildsRow.holds Tryz.pinned (OpenSpec.ofChange nearBuildsSpec)

/-- ITS FALSE NEIGHBOUR: 'it returns false'. Refute it at one input. -/
def nearBuildsWrong : ChangeSpec := { name := "nearBuilds", fn := fun _ => fun
  | [d1, d2, d3, d4] => { results := [.lit (.bool false)], args := [d1, d2, d3, d4] }
  | _ => none }
def NearBuildsWrongFalsely : Prop := nearBuildsRow.holds Tryz.pinned (OpenSpec.ofChange nearBuildsWrong)

/-- 'abaculuslaw23.NearTrees': WHATEVER THE INPUT: true; the input reads as it did. -/
def nearTreesSpec : ChangeSpec := { name := "nearTrees", fn := fun _ => fun
  | [d1, d2, d3, d4, d5, d6, d7, d8, d9] => { results := [.lit (.bool true)], args := [d1, d2, d3, d4, d5, d6, d7, d8, d9] }
  | _ => none }
def nearTreesRow : OpenClaim := { program := "ytjmopgepnndckaagreatdoor", sum := "078a9ad9698033085300a55df55b3958c557ed384618ac4f0283f5376e99f4a6", func := "abaculus/abaculuslaw23.NearTrees", spec := "nearTrees", inPlace := ["math/bits.Add64", "internal/abi.NoEscape", "internal/bytealg.MakeNoZero", "math/bits.Sub64"], unfollowed := true, recurses := true, named := ["math/bits.divideError", "math/bits.overflowError", "math/bits.deBruijn64tab"], apart := false, laid := [("math/bits.deBruijn64tab", laid_math_bits_deBruijn64tab)] }
def NearTreesSaid : Prop := nearTreesRow.holds Tryz.pinned (OpenSpec.ofChange nearTreesSpec)

/-- ITS FALSE NEIGHBOUR: 'it returns false'. Refute it at one input. -/
def nearTreesWrong : ChangeSpec := { name := "nearTrees", fn := fun _ => fun
  | [d1, d2, d3, d4, d5, d6, d7, d8, d9] => { results := [.lit (.bool false)], args := [d1, d2, d3, d4, d5, d6, d7, d8, d9] }
  | _ => none }
def NearTreesWrongFalsely : Prop := nearTreesRow.holds Tryz.pinned (OpenSpec.ofChange nearTreesWrong)

/-- 'abaculuslaw23.NearWithin': WHATEVER THE INPUT: true; the input reads as it did. -/
def nearWithinSpec : ChangeSpec := { name := "nearWithin", fn := fun _ => fun
  | [d1, d2, d3, d4, d5, d6, d7] => { results := [.lit (.bool true)], args := [d1, d2, d3, d4, d5, d6, d7] }
  | _ => none }
def nearWithinRow : OpenClaim := { program := "ytjmopgepnndckaagreatdoor", sum := "078a9ad9698033085300a55df55b3958c557ed384618ac4f0283f5376e99f4a6", func := "abaculus/abaculuslaw23.NearWithin", spec := "nearWithin", inPlace := ["math/bits.Add64", "internal/abi.NoEscape", "internal/bytealg.MakeNoZero", "math/bits.Sub64"], unfollowed := true, recurses := true, named := ["math/bits.divideError", "math/bits.overflowError", "math/bits.deBruijn64tab"], apart := false, laid := [("math/bits.deBruijn64tab", laid_math_bits_deBruijn64tab)] }
def NearWithinSaid : Prop := nearWithinRow.holds Tryz.pinned (OpenSpec.ofChange nearWithinSpec)

/-- ITS FALSE NEIGHBOUR: 'it returns false'. Refute it at one input. -/
def nearWithinWrong : ChangeSpec := { name := "nearWithin", fn := fun _ => fun
  | [d1, d2, d3, d4, d5, d6, d7] => { results := [.lit (.bool false)], args := [d1, d2, d3, d4, d5, d6, d7] }
  | _ => none }
def NearWithinWrongFalsely : Prop := nearWithinRow.holds Tryz.pinned (OpenSpec.ofChange nearWithinWrong)

/-- 'abaculuslaw23.NearOrder': WHATEVER THE INPUT: true; the input reads as it did. -/
def nearOrderSpec : ChangeSpec := { name := "nearOrder", fn := fun _ => fun
  | [d1, d2, d3, d4, d5, d6, d7] => { results := [.lit (.bool true)], args := [d1, d2, d3, d4, d5, d6, d7] }
  | _ => none }
def nearOrderRow : OpenClaim := { program := "ytjmopgepnndckaagreatdoor", sum := "078a9ad9698033085300a55df55b3958c557ed384618ac4f0283f5376e99f4a6", func := "abaculus/abaculuslaw23.NearOrder", spec := "nearOrder", inPlace := ["math/bits.Add64", "internal/abi.NoEscape", "internal/bytealg.MakeNoZero", "math/bits.Sub64"], unfollowed := true, recurses := true, named := ["math/bits.divideError", "math/bits.overflowError", "math/bits.deBruijn64tab"], apart := false, laid := [("math/bits.deBruijn64tab", laid_math_bits_deBruijn64tab)] }
def NearOrderSaid : Prop := nearOrderRow.holds Tryz.pinned (OpenSpec.ofChange nearOrderSpec)

/-- ITS FALSE NEIGHBOUR: 'it returns false'. Refute it at one input. -/
def nearOrderWrong : ChangeSpec := { name := "nearOrder", fn := fun _ => fun
  | [d1, d2, d3, d4, d5, d6, d7] => { results := [.lit (.bool false)], args := [d1, d2, d3, d4, d5, d6, d7] }
  | _ => none }
def NearOrderWrongFalsely : Prop := nearOrderRow.holds Tryz.pinned (OpenSpec.ofChange nearOrderWrong)

/-- 'abaculuslaw23.NearKnown': WHATEVER THE INPUT: true; the input reads as it did. -/
def nearKnownSpec : ChangeSpec := { name := "nearKnown", fn := fun _ => fun
  | [] => { results := [.lit (.bool true)], args := [] }
  | _ => none }
def nearKnownRow : OpenClaim := { program := "ytjmopgepnndckaagreatdoor", sum := "078a9ad9698033085300a55df55b3958c557ed384618ac4f0283f5376e99f4a6", func := "abaculus/abaculuslaw23.NearKnown", spec := "nearKnown", inPlace := ["internal/abi.NoEscape", "internal/bytealg.MakeNoZero", "math/bits.Add64", "math/bits.Sub64"], unfollowed := true, recurses := true, named := ["math/bits.divideError", "math/bits.overflowError", "math/bits.deBruijn64tab"], apart := false, laid := [("math/bits.deBruijn64tab", laid_math_bits_deBruijn64tab)] }
def NearKnownSaid : Prop := nearKnownRow.holds Tryz.pinned (OpenSpec.ofChange nearKnownSpec)

/-- ITS FALSE NEIGHBOUR: 'it returns false'. Refute it at one input. -/
def nearKnownWrong : ChangeSpec := { name := "nearKnown", fn := fun _ => fun
  | [] => { results := [.lit (.bool false)], args := [] }
  | _ => none }
def NearKnownWrongFalsely : Prop := nearKnownRow.holds Tryz.pinned (OpenSpec.ofChange nearKnownWrong)

/- THE SECOND FORM. 'bulk': how many values and letters a reading holds, each counted each time it is reached (what is shared counts as often as it is met; a slice's spare places count too). A statement '..UptoSaid' is the law's where the arguments, and the package variables that the reading takes, are together of bulk at most 1048576: NARROWER than '..Said'. Prove '..Said' where nothing that the law and all that it calls make is longer than what came in: it says more and counts as full. Else prove '..UptoSaid'. A law counts once. -/
mutual
def uptoBulk {H : Type} : DataW H → Nat
  | .lit (.string bytes) => bytes.length + 1
  | .lit _ => 1
  | .nil => 1
  | .ptr d => uptoBulk d + 1
  | .slice elems spare => uptoBulkAll elems + uptoBulkAll spare + 1
  | .agg parts => uptoBulkAll parts + 1
  | .iface _ d => uptoBulk d + 1
  | .map entries => uptoBulkEntries entries + 1
  | .held _ => 1
def uptoBulkAll {H : Type} : List (DataW H) → Nat
  | [] => 0
  | d :: r => uptoBulk d + uptoBulkAll r
def uptoBulkEntries {H : Type} : List (Lit × DataW H) → Nat
  | [] => 0
  | x :: r => uptoBulkEntry x + uptoBulkEntries r
def uptoBulkEntry {H : Type} : Lit × DataW H → Nat
  | (.string bytes, d) => bytes.length + uptoBulk d + 1
  | (_, d) => uptoBulk d + 1
 end
def uptoSmall : (H : Type) → List (DataW H) → Bool := fun _ ds => decide (uptoBulkAll ds ≤ 1048576)
def OpenSpec.upto (s : _root_.Go.ChangeSpec) : _root_.Go.OpenSpec := { _root_.Go.OpenSpec.ofChange s with cond := some uptoSmall }

/-- 'abaculuslaw23.NearPlain', WHERE WHAT IT READS IS OF BULK AT MOST 1048576: true; the input reads as it did. -/
def nearPlainUptoRow : OpenClaim := { program := "ytjmopgepnndckaagreatdoor", sum := "078a9ad9698033085300a55df55b3958c557ed384618ac4f0283f5376e99f4a6", func := "abaculus/abaculuslaw23.NearPlain", spec := "nearPlain", inPlace := ["internal/abi.NoEscape", "internal/bytealg.MakeNoZero", "math/bits.Add64", "math/bits.Sub64"], unfollowed := true, recurses := true, named := ["math/bits.divideError", "math/bits.overflowError", "math/bits.deBruijn64tab"], apart := false, laid := [("math/bits.deBruijn64tab", laid_math_bits_deBruijn64tab)], narrowed := true }
def NearPlainUptoSaid : Prop := nearPlainUptoRow.holds Tryz.pinned (OpenSpec.upto nearPlainSpec)

/-- 'abaculuslaw23.NearVotes', WHERE WHAT IT READS IS OF BULK AT MOST 1048576: true; the input reads as it did. -/
def nearVotesUptoRow : OpenClaim := { program := "ytjmopgepnndckaagreatdoor", sum := "078a9ad9698033085300a55df55b3958c557ed384618ac4f0283f5376e99f4a6", func := "abaculus/abaculuslaw23.NearVotes", spec := "nearVotes", inPlace := ["internal/abi.NoEscape", "internal/bytealg.MakeNoZero", "math/bits.Add64", "math/bits.Sub64"], unfollowed := true, recurses := true, named := ["math/bits.divideError", "math/bits.overflowError", "math/bits.deBruijn64tab"], apart := false, laid := [("math/bits.deBruijn64tab", laid_math_bits_deBruijn64tab)], narrowed := true }
def NearVotesUptoSaid : Prop := nearVotesUptoRow.holds Tryz.pinned (OpenSpec.upto nearVotesSpec)

/-- 'abaculuslaw23.NearChecks', WHERE WHAT IT READS IS OF BULK AT MOST 1048576: true; the input reads as it did. -/
def nearChecksUptoRow : OpenClaim := { program := "ytjmopgepnndckaagreatdoor", sum := "078a9ad9698033085300a55df55b3958c557ed384618ac4f0283f5376e99f4a6", func := "abaculus/abaculuslaw23.NearChecks", spec := "nearChecks", inPlace := ["math/bits.Add64", "internal/abi.NoEscape", "internal/bytealg.MakeNoZero", "math/bits.Sub64"], unfollowed := true, recurses := true, named := ["math/bits.divideError", "math/bits.overflowError", "math/bits.deBruijn64tab"], apart := false, laid := [("math/bits.deBruijn64tab", laid_math_bits_deBruijn64tab)], narrowed := true }
def NearChecksUptoSaid : Prop := nearChecksUptoRow.holds Tryz.pinned (OpenSpec.upto nearChecksSpec)

/-- 'abaculuslaw23.NearStays', WHERE WHAT IT READS IS OF BULK AT MOST 1048576: true; the input reads as it did. -/
def nearStaysUptoRow : OpenClaim := { program := "ytjmopgepnndckaagreatdoor", sum := "078a9ad9698033085300a55df55b3958c557ed384618ac4f0283f5376e99f4a6", func := "abaculus/abaculuslaw23.NearStays", spec := "nearStays", inPlace := ["math/bits.Add64", "internal/abi.NoEscape", "internal/bytealg.MakeNoZero", "math/bits.Sub64"], unfollowed := true, recurses := true, named := ["math/bits.divideError", "math/bits.overflowError", "math/bits.deBruijn64tab"], apart := false, laid := [("math/bits.deBruijn64tab", laid_math_bits_deBruijn64tab)], narrowed := true }
def NearStaysUptoSaid : Prop := nearStaysUptoRow.holds Tryz.pinned (OpenSpec.upto nearStaysSpec)

/-- 'abaculuslaw23.NearBuilds', WHERE WHAT IT READS IS OF BULK AT MOST 1048576: true; the input reads as it did. -/
def nearBuildsUptoRow : OpenClaim := { program := "ytjmopgepnndckaagreatdoor", sum := "078a9ad9698033085300a55df55b3958c557ed384618ac4f0283f5376e99f4a6", func := "abaculus/abaculuslaw23.NearBuilds", spec := "nearBuilds", inPlace := ["internal/abi.NoEscape", "internal/bytealg.MakeNoZero", "math/bits.Add64", "math/bits.Sub64"], unfollowed := true, recurses := true, named := ["math/bits.divideError", "math/bits.overflowError", "math/bits.deBruijn64tab"], apart := false, laid := [("math/bits.deBruijn64tab", laid_math_bits_deBruijn64tab)], narrowed := true }
def NearBuildsUptoSaid : Prop := nearBuildsUptoRow.holds Tryz.pinned (OpenSpec.upto nearBuildsSpec)

/-- 'abaculuslaw23.NearTrees', WHERE WHAT IT READS IS OF BULK AT MOST 1048576: true; the input reads as it did. -/
def nearTreesUptoRow : OpenClaim := { program := "ytjmopgepnndckaagreatdoor", sum := "078a9ad9698033085300a55df55b3958c557ed384618ac4f0283f5376e99f4a6", func := "abaculus/abaculuslaw23.NearTrees", spec := "nearTrees", inPlace := ["math/bits.Add64", "internal/abi.NoEscape", "internal/bytealg.MakeNoZero", "math/bits.Sub64"], unfollowed := true, recurses := true, named := ["math/bits.divideError", "math/bits.overflowError", "math/bits.deBruijn64tab"], apart := false, laid := [("math/bits.deBruijn64tab", laid_math_bits_deBruijn64tab)], narrowed := true }
def NearTreesUptoSaid : Prop := nearTreesUptoRow.holds Tryz.pinned (OpenSpec.upto nearTreesSpec)

/-- 'abaculuslaw23.NearWithin', WHERE WHAT IT READS IS OF BULK AT MOST 1048576: true; the input reads as it did. -/
def nearWithinUptoRow : OpenClaim := { program := "ytjmopgepnndckaagreatdoor", sum := "078a9ad9698033085300a55df55b3958c557ed384618ac4f0283f5376e99f4a6", func := "abaculus/abaculuslaw23.NearWithin", spec := "nearWithin", inPlace := ["math/bits.Add64", "internal/abi.NoEscape", "internal/bytealg.MakeNoZero", "math/bits.Sub64"], unfollowed := true, recurses := true, named := ["math/bits.divideError", "math/bits.overflowError", "math/bits.deBruijn64tab"], apart := false, laid := [("math/bits.deBruijn64tab", laid_math_bits_deBruijn64tab)], narrowed := true }
def NearWithinUptoSaid : Prop := nearWithinUptoRow.holds Tryz.pinned (OpenSpec.upto nearWithinSpec)

/-- 'abaculuslaw23.NearOrder', WHERE WHAT IT READS IS OF BULK AT MOST 1048576: true; the input reads as it did. -/
def nearOrderUptoRow : OpenClaim := { program := "ytjmopgepnndckaagreatdoor", sum := "078a9ad9698033085300a55df55b3958c557ed384618ac4f0283f5376e99f4a6", func := "abaculus/abaculuslaw23.NearOrder", spec := "nearOrder", inPlace := ["math/bits.Add64", "internal/abi.NoEscape", "internal/bytealg.MakeNoZero", "math/bits.Sub64"], unfollowed := true, recurses := true, named := ["math/bits.divideError", "math/bits.overflowError", "math/bits.deBruijn64tab"], apart := false, laid := [("math/bits.deBruijn64tab", laid_math_bits_deBruijn64tab)], narrowed := true }
def NearOrderUptoSaid : Prop := nearOrderUptoRow.holds Tryz.pinned (OpenSpec.upto nearOrderSpec)

/-- 'abaculuslaw23.NearKnown', WHERE WHAT IT READS IS OF BULK AT MOST 1048576: true; the input reads as it did. -/
def nearKnownUptoRow : OpenClaim := { program := "ytjmopgepnndckaagreatdoor", sum := "078a9ad9698033085300a55df55b3958c557ed384618ac4f0283f5376e99f4a6", func := "abaculus/abaculuslaw23.NearKnown", spec := "nearKnown", inPlace := ["internal/abi.NoEscape", "internal/bytealg.MakeNoZero", "math/bits.Add64", "math/bits.Sub64"], unfollowed := true, recurses := true, named := ["math/bits.divideError", "math/bits.overflowError", "math/bits.deBruijn64tab"], apart := false, laid := [("math/bits.deBruijn64tab", laid_math_bits_deBruijn64tab)], narrowed := true }
def NearKnownUptoSaid : Prop := nearKnownUptoRow.holds Tryz.pinned (OpenSpec.upto nearKnownSpec)

end Rows
end Go.Proofs.YtjmopgepnndckaaGreatDoor
