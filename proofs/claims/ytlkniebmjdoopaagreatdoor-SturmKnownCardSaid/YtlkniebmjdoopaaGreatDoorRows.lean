/-
  NARROWER THAN 'FOR EVERY INPUT', by the rows' own cells (each row's printed sentence says how): SturmRoots: laid · SturmTells: laid · SturmNarrows: laid · SturmKnown: laid · SturmParts: laid.
  DERIVED. THE GIVEN ROWS OF THIS SEAT. 5 by the template 'for every input the law returns true; each argument reads behind the call as it read before'; 0 by the template 'total and deterministic' (their statements: YtlkniebmjdoopaaGreatDoorTotals.lean).
  GIVEN WITH THE SEED: the statements are not yours to turn. If you find one false, say at which input.
  Laid BY PROGRAM, IN A SANDBOX (cutbox-rows.mjs): the forced cells as the released guide's own fill.sh prints them over the translation 2a8233ad16d08afe… (all of the seat's roots in one cut). By AI agents, Wed Nov 11 2026. No macro, syntax, notation, axiom, sorry.
-/
import Derived.Test.YtlkniebmjdoopaaGreatDoorChecked
import GoSem.Claim
import GoSem.ClaimJoined
import GoSem.ClaimMapViews
import Derived.JoinedTies
import Derived.KernelRfl
namespace Go.Proofs.YtlkniebmjdoopaaGreatDoor
/- THE CELL 'sum', in the pinned program and in every row, IS THE sha256 OF THE DUMP (.gsa) THAT YtlkniebmjdoopaaGreatDoorProg.lean LOADS. Nothing in Lean hashes anything: it is a label: what it is worth is what the hold of that sum in a sandbox is worth. -/
noncomputable def Tryz.pinned : Pinned := { name := "ytlkniebmjdoopaagreatdoor", sum := "2a8233ad16d08afea670a737ab8ec17d2aed277aa7cf03abc367ecbebe0f360c", checked := Tryz.checked }
namespace Rows
def none {H : Type} : Left H := { results := [], args := [] }

/- WHAT THE LISTED PACKAGE-LEVEL VARIABLES READ AS WHEN THE CALL BEGINS. Each datum BY PROGRAM (the guide's laid-datum.mjs) off the statement by which the dump's own 'gosem.cut.vars' lays the variable. In a bare row this is a premise. The card (YtlkniebmjdoopaaGreatDoorCards.lean) ties it to the program's text. -/
def laid_math_bits_deBruijn64tab {H : Type} : DataW H := .agg [.lit (.int .u8 0), .lit (.int .u8 1), .lit (.int .u8 56), .lit (.int .u8 2), .lit (.int .u8 57), .lit (.int .u8 49), .lit (.int .u8 28), .lit (.int .u8 3), .lit (.int .u8 61), .lit (.int .u8 58), .lit (.int .u8 42), .lit (.int .u8 50), .lit (.int .u8 38), .lit (.int .u8 29), .lit (.int .u8 17), .lit (.int .u8 4), .lit (.int .u8 62), .lit (.int .u8 47), .lit (.int .u8 59), .lit (.int .u8 36), .lit (.int .u8 45), .lit (.int .u8 43), .lit (.int .u8 51), .lit (.int .u8 22), .lit (.int .u8 53), .lit (.int .u8 39), .lit (.int .u8 33), .lit (.int .u8 30), .lit (.int .u8 24), .lit (.int .u8 18), .lit (.int .u8 12), .lit (.int .u8 5), .lit (.int .u8 63), .lit (.int .u8 55), .lit (.int .u8 48), .lit (.int .u8 27), .lit (.int .u8 60), .lit (.int .u8 41), .lit (.int .u8 37), .lit (.int .u8 16), .lit (.int .u8 46), .lit (.int .u8 35), .lit (.int .u8 44), .lit (.int .u8 21), .lit (.int .u8 52), .lit (.int .u8 32), .lit (.int .u8 23), .lit (.int .u8 11), .lit (.int .u8 54), .lit (.int .u8 26), .lit (.int .u8 40), .lit (.int .u8 15), .lit (.int .u8 34), .lit (.int .u8 20), .lit (.int .u8 31), .lit (.int .u8 10), .lit (.int .u8 25), .lit (.int .u8 14), .lit (.int .u8 19), .lit (.int .u8 9), .lit (.int .u8 13), .lit (.int .u8 8), .lit (.int .u8 7), .lit (.int .u8 6)]

/-- 'abaculuslaw14.SturmRoots': WHATEVER THE INPUT: true; the input reads as it did. -/
def sturmRootsSpec : ChangeSpec := { name := "sturmRoots", fn := fun _ => fun
  | [d1, d2] => { results := [.lit (.bool true)], args := [d1, d2] }
  | _ => none }
def sturmRootsRow : OpenClaim := { program := "ytlkniebmjdoopaagreatdoor", sum := "2a8233ad16d08afea670a737ab8ec17d2aed277aa7cf03abc367ecbebe0f360c", func := "abaculus/abaculuslaw14.SturmRoots", spec := "sturmRoots", inPlace := ["internal/abi.NoEscape", "internal/bytealg.MakeNoZero", "math/bits.Add64", "math/bits.Sub64"], unfollowed := true, recurses := true, named := ["math/bits.divideError", "math/bits.overflowError", "math/bits.deBruijn64tab"], apart := false, laid := [("math/bits.deBruijn64tab", laid_math_bits_deBruijn64tab)] }
def SturmRootsSaid : Prop := sturmRootsRow.holds Tryz.pinned (OpenSpec.ofChange sturmRootsSpec)

/-- ITS FALSE NEIGHBOUR: 'it returns false'. Refute it at one input. -/
def sturmRootsWrong : ChangeSpec := { name := "sturmRoots", fn := fun _ => fun
  | [d1, d2] => { results := [.lit (.bool false)], args := [d1, d2] }
  | _ => none }
def SturmRootsWrongFalsely : Prop := sturmRootsRow.holds Tryz.pinned (OpenSpec.ofChange sturmRootsWrong)

/-- 'abaculuslaw14.SturmTells': WHATEVER THE INPUT: true; the input reads as it did. -/
def sturmTellsSpec : ChangeSpec := { name := "sturmTells", fn := fun _ => fun
  | [d1, d2, d3, d4, d5] => { results := [.lit (.bool true)], args := [d1, d2, d3, d4, d5] }
  | _ => none }
def sturmTellsRow : OpenClaim := { program := "ytlkniebmjdoopaagreatdoor", sum := "2a8233ad16d08afea670a737ab8ec17d2aed277aa7cf03abc367ecbebe0f360c", func := "abaculus/abaculuslaw14.SturmTells", spec := "sturmTells", inPlace := ["internal/abi.NoEscape", "internal/bytealg.MakeNoZero", "math/bits.Add64", "math/bits.Sub64"], unfollowed := true, recurses := true, named := ["math/bits.divideError", "math/bits.overflowError", "math/bits.deBruijn64tab"], apart := false, laid := [("math/bits.deBruijn64tab", laid_math_bits_deBruijn64tab)] }
def SturmTellsSaid : Prop := sturmTellsRow.holds Tryz.pinned (OpenSpec.ofChange sturmTellsSpec)

/-- ITS FALSE NEIGHBOUR: 'it returns false'. Refute it at one input. -/
def sturmTellsWrong : ChangeSpec := { name := "sturmTells", fn := fun _ => fun
  | [d1, d2, d3, d4, d5] => { results := [.lit (.bool false)], args := [d1, d2, d3, d4, d5] }
  | _ => none }
def SturmTellsWrongFalsely : Prop := sturmTellsRow.holds Tryz.pinned (OpenSpec.ofChange sturmTellsWrong)

/-- 'abaculuslaw14.SturmNarrows': WHATEVER THE INPUT: true; the input reads as it did. -/
def sturmNarrowsSpec : ChangeSpec := { name := "sturmNarrows", fn := fun _ => fun
  | [d1, d2, d3, d4, d5, d6] => { results := [.lit (.bool true)], args := [d1, d2, d3, d4, d5, d6] }
  | _ => none }
def sturmNarrowsRow : OpenClaim := { program := "ytlkniebmjdoopaagreatdoor", sum := "2a8233ad16d08afea670a737ab8ec17d2aed277aa7cf03abc367ecbebe0f360c", func := "abaculus/abaculuslaw14.SturmNarrows", spec := "sturmNarrows", inPlace := ["internal/abi.NoEscape", "internal/bytealg.MakeNoZero", "math/bits.Add64", "math/bits.Sub64"], unfollowed := true, recurses := true, named := ["math/bits.divideError", "math/bits.overflowError", "math/bits.deBruijn64tab"], apart := false, laid := [("math/bits.deBruijn64tab", laid_math_bits_deBruijn64tab)] }
def SturmNarrowsSaid : Prop := sturmNarrowsRow.holds Tryz.pinned (OpenSpec.ofChange sturmNarrowsSpec)

/-- ITS FALSE NEIGHBOUR: 'it returns false'. Refute it at one input. -/
def sturmNarrowsWrong : ChangeSpec := { name := "sturmNarrows", fn := fun _ => fun
  | [d1, d2, d3, d4, d5, d6] => { results := [.lit (.bool false)], args := [d1, d2, d3, d4, d5, d6] }
  | _ => none }
def SturmNarrowsWrongFalsely : Prop := sturmNarrowsRow.holds Tryz.pinned (OpenSpec.ofChange sturmNarrowsWrong)

/-- 'abaculuslaw14.SturmKnown': WHATEVER THE INPUT: true; the input reads as it did. -/
def sturmKnownSpec : ChangeSpec := { name := "sturmKnown", fn := fun _ => fun
  | [] => { results := [.lit (.bool true)], args := [] }
  | _ => none }
def sturmKnownRow : OpenClaim := { program := "ytlkniebmjdoopaagreatdoor", sum := "2a8233ad16d08afea670a737ab8ec17d2aed277aa7cf03abc367ecbebe0f360c", func := "abaculus/abaculuslaw14.SturmKnown", spec := "sturmKnown", inPlace := ["internal/abi.NoEscape", "internal/bytealg.MakeNoZero", "math/bits.Add64", "math/bits.Sub64"], unfollowed := true, recurses := true, named := ["math/bits.divideError", "math/bits.overflowError", "math/bits.deBruijn64tab"], apart := false, laid := [("math/bits.deBruijn64tab", laid_math_bits_deBruijn64tab)] }
def SturmKnownSaid : Prop := sturmKnownRow.holds Tryz.pinned (OpenSpec.ofChange sturmKnownSpec)

/-- ITS FALSE NEIGHBOUR: 'it returns false'. Refute it at one input. -/
def sturmKnownWrong : ChangeSpec := { name := "sturmKnown", fn := fun _ => fun
  | [] => { results := [.lit (.bool false)], args := [] }
  | _ => none }
def SturmKnownWrongFalsely : Prop := sturmKnownRow.holds Tryz.pinned (OpenSpec.ofChange sturmKnownWrong)

/-- 'abaculuslaw14.SturmParts': WHATEVER THE INPUT: true; the input reads as it did. -/
def sturmPartsSpec : ChangeSpec := { name := "sturmParts", fn := fun _ => fun
  | [d1, d2, d3, d4, d5, d6] => { results := [.lit (.bool true)], args := [d1, d2, d3, d4, d5, d6] }
  | _ => none }
def sturmPartsRow : OpenClaim := { program := "ytlkniebmjdoopaagreatdoor", sum := "2a8233ad16d08afea670a737ab8ec17d2aed277aa7cf03abc367ecbebe0f360c", func := "abaculus/abaculuslaw14.SturmParts", spec := "sturmParts", inPlace := ["internal/abi.NoEscape", "internal/bytealg.MakeNoZero", "math/bits.Add64", "math/bits.Sub64"], unfollowed := true, recurses := true, named := ["math/bits.divideError", "math/bits.overflowError", "math/bits.deBruijn64tab"], apart := false, laid := [("math/bits.deBruijn64tab", laid_math_bits_deBruijn64tab)] }
def SturmPartsSaid : Prop := sturmPartsRow.holds Tryz.pinned (OpenSpec.ofChange sturmPartsSpec)

/-- ITS FALSE NEIGHBOUR: 'it returns false'. Refute it at one input. -/
def sturmPartsWrong : ChangeSpec := { name := "sturmParts", fn := fun _ => fun
  | [d1, d2, d3, d4, d5, d6] => { results := [.lit (.bool false)], args := [d1, d2, d3, d4, d5, d6] }
  | _ => none }
def SturmPartsWrongFalsely : Prop := sturmPartsRow.holds Tryz.pinned (OpenSpec.ofChange sturmPartsWrong)

/- THE SECOND FORM. 'bulk': how many values and letters a reading holds, each counted each time it is reached (what is shared counts as often as it is met; a slice's spare places count too). A statement '..UptoSaid' is the law's where the arguments, and the package variables that the reading takes, are together of bulk at most 1048576: NARROWER than '..Said'. Prove '..Said' where nothing that the law and all that it calls make is longer than what came in: it says more and counts as full. Else prove '..UptoSaid'. A law counts once. -/
mutual
def uptoBulk {H : Type} : DataW H → Nat
  | .lit (.string bytes) => bytes.length + 1
  | .lit _ => 1
  | .nil => 1
  | .ptr d => uptoBulk d + 1
  | .slice elems spare => uptoBulkAll elems + uptoBulkAll spare + 1
  | .agg parts => uptoBulkAll parts + 1
  | .iface _ d => uptoBulk d + 1
  | .map entries => uptoBulkEntries entries + 1
  | .held _ => 1
def uptoBulkAll {H : Type} : List (DataW H) → Nat
  | [] => 0
  | d :: r => uptoBulk d + uptoBulkAll r
def uptoBulkEntries {H : Type} : List (Lit × DataW H) → Nat
  | [] => 0
  | x :: r => uptoBulkEntry x + uptoBulkEntries r
def uptoBulkEntry {H : Type} : Lit × DataW H → Nat
  | (.string bytes, d) => bytes.length + uptoBulk d + 1
  | (_, d) => uptoBulk d + 1
 end
def uptoSmall : (H : Type) → List (DataW H) → Bool := fun _ ds => decide (uptoBulkAll ds ≤ 1048576)
def OpenSpec.upto (s : _root_.Go.ChangeSpec) : _root_.Go.OpenSpec := { _root_.Go.OpenSpec.ofChange s with cond := some uptoSmall }

/-- 'abaculuslaw14.SturmRoots', WHERE WHAT IT READS IS OF BULK AT MOST 1048576: true; the input reads as it did. -/
def sturmRootsUptoRow : OpenClaim := { program := "ytlkniebmjdoopaagreatdoor", sum := "2a8233ad16d08afea670a737ab8ec17d2aed277aa7cf03abc367ecbebe0f360c", func := "abaculus/abaculuslaw14.SturmRoots", spec := "sturmRoots", inPlace := ["internal/abi.NoEscape", "internal/bytealg.MakeNoZero", "math/bits.Add64", "math/bits.Sub64"], unfollowed := true, recurses := true, named := ["math/bits.divideError", "math/bits.overflowError", "math/bits.deBruijn64tab"], apart := false, laid := [("math/bits.deBruijn64tab", laid_math_bits_deBruijn64tab)], narrowed := true }
def SturmRootsUptoSaid : Prop := sturmRootsUptoRow.holds Tryz.pinned (OpenSpec.upto sturmRootsSpec)

/-- 'abaculuslaw14.SturmTells', WHERE WHAT IT READS IS OF BULK AT MOST 1048576: true; the input reads as it did. -/
def sturmTellsUptoRow : OpenClaim := { program := "ytlkniebmjdoopaagreatdoor", sum := "2a8233ad16d08afea670a737ab8ec17d2aed277aa7cf03abc367ecbebe0f360c", func := "abaculus/abaculuslaw14.SturmTells", spec := "sturmTells", inPlace := ["internal/abi.NoEscape", "internal/bytealg.MakeNoZero", "math/bits.Add64", "math/bits.Sub64"], unfollowed := true, recurses := true, named := ["math/bits.divideError", "math/bits.overflowError", "math/bits.deBruijn64tab"], apart := false, laid := [("math/bits.deBruijn64tab", laid_math_bits_deBruijn64tab)], narrowed := true }
def SturmTellsUptoSaid : Prop := sturmTellsUptoRow.holds Tryz.pinned (OpenSpec.upto sturmTellsSpec)

/-- 'abaculuslaw14.SturmNarrows', WHERE WHAT IT READS IS OF BULK AT MOST 1048576: true; the input reads as it did. -/
def sturmNarrowsUptoRow : OpenClaim := { program := "ytlkniebmjdoopaagreatdoor", sum := "2a8233ad16d08afea670a737ab8ec17d2aed277aa7cf03abc367ecbebe0f360c", func := "abaculus/abaculuslaw14.SturmNarrows", spec := "sturmNarrows", inPlace := ["internal/abi.NoEscape", "internal/bytealg.MakeNoZero", "math/bits.Add64", "math/bits.Sub64"], unfollowed := true, recurses := true, named := ["math/bits.divideError", "math/bits.overflowError", "math/bits.deBruijn64tab"], apart := false, laid := [("math/bits.deBruijn64tab", laid_math_bits_deBruijn64tab)], narrowed := true }
def SturmNarrowsUptoSaid : Prop := sturmNarrowsUptoRow.holds Tryz.pinned (OpenSpec.upto sturmNarrowsSpec)

/-- 'abaculuslaw14.SturmKnown', WHERE WHAT IT READS IS OF BULK AT MOST 1048576: true; the input reads as it did. -/
def sturmKnownUptoRow : OpenClaim := { program := "ytlkniebmjdoopaagreatdoor", sum := "2a8233ad16d08afea670a737ab8ec17d2aed277aa7cf03abc367ecbebe0f360c", func := "abaculus/abaculuslaw14.SturmKnown", spec := "sturmKnown", inPlace := ["internal/abi.NoEscape", "internal/bytealg.MakeNoZero", "math/bits.Add64", "math/bits.Sub64"], unfollowed := true, recurses := true, named := ["math/bits.divideError", "math/bits.overflowError", "math/bits.deBruijn64tab"], apart := false, laid := [("math/bits.deBruijn64tab", laid_math_bits_deBruijn64tab)], narrowed := true }
def SturmKnownUptoSaid : Prop := sturmKnownUptoRow.holds Tryz.pinned (OpenSpec.upto sturmKnownSpec)

/-- 'abaculuslaw14.SturmParts', WHERE WHAT IT READS IS OF BULK AT MOST 1048576: true; the input reads as it did. -/
def sturmPartsUptoRow : OpenClaim := { program := "ytlkniebmjdoopaagreatdoor", sum := "2a8233ad16d08afea670a737ab8ec17d2aed277aa7cf03abc367ecbebe0f360c", func := "abaculus/abaculuslaw14.SturmParts", spec := "sturmParts", inPlace := ["internal/abi.NoEscape", "internal/bytealg.MakeNoZero", "math/bits.Add64", "math/bits.Sub64"], unfollowed := true, recurses := true, named := ["math/bits.divideError", "math/bits.overflowError", "math/bits.deBruijn64tab"], apart := false, laid := [("math/bits.deBruijn64tab", laid_math_bits_deBruijn64tab)], narrowed := true }
def SturmPartsUptoSaid : Prop := sturmPartsUptoRow.holds Tryz.pinned (OpenSpec.upto sturmPartsSpec)

end Rows
end Go.Proofs.YtlkniebmjdoopaaGreatDoor
