/-
  law9.ScoreTables: the lists.
-/
import Derived.Test.YtimjnkfcnpfoeaaGreatDoorApp
set_option linter.unusedSimpArgs false
set_option linter.unusedVariables false
namespace Go.Proofs.YtimjnkfcnpfoeaaGreatDoor
open Go.RowKit
/-- the raw number at place i, or the place's own -/
def rawAt (l : List Int) (i : Nat) (d : Int) : Int := if i < l.length then gi l i else d
def wantAt (l : List Int) (k : Int) (i : Nat) : Int := pick (rawAt l i i) k
def gotAt (l : List Int) (k : Int) (i : Nat) : Int := pick (rawAt l i (i * 3 : Nat)) k
def wantL (l : List Int) (k : Int) (n : Nat) : List Int := (List.range n).map (wantAt l k)
def gotL (l : List Int) (k : Int) (n : Nat) : List Int := (List.range n).map (gotAt l k)
theorem wantL_succ (l : List Int) (k : Int) (n : Nat) : wantL l k (n + 1) = wantL l k n ++ [wantAt l k n] := by
  unfold wantL; rw [List.range_succ, List.map_append]; rfl
theorem gotL_succ (l : List Int) (k : Int) (n : Nat) : gotL l k (n + 1) = gotL l k n ++ [gotAt l k n] := by
  unfold gotL; rw [List.range_succ, List.map_append]; rfl
theorem wantL_len (l : List Int) (k : Int) (n : Nat) : (wantL l k n).length = n := by unfold wantL; simp
theorem gotL_len (l : List Int) (k : Int) (n : Nat) : (gotL l k n).length = n := by unfold gotL; simp
theorem wantL_gi (l : List Int) (k : Int) {n i : Nat} (h : i < n) : gi (wantL l k n) i = wantAt l k i := by unfold gi wantL; simp [h]
theorem gotL_gi (l : List Int) (k : Int) {n i : Nat} (h : i < n) : gi (gotL l k n) i = gotAt l k i := by unfold gi gotL; simp [h]
end Go.Proofs.YtimjnkfcnpfoeaaGreatDoor
