/- Cut in K: all lines, the document's way. -/
import Derived.Test.YtjabaenpkimmjaaCtI
import Derived.Test.YtjabaenpkimmjaaCtH
namespace Go.Proofs.Ytjabaenpkimmjaa
set_option linter.unusedSimpArgs false
set_option linter.unusedVariables false
open Go.RowKit
def linesD (q : Nat × Int × List Ln) : AV := .tup [lnsA q.2.2, inA (q.1 : Int), inA q.2.1]
def linesD0 (q : Nat × Int × List Ln) : AV := .tup [.sl (q.2.2.flatMap lnA) q.2.2.length (if q.1 = 0 then .none else .full), inA (q.1 : Int), inA q.2.1]
theorem linesD0_n {e : Nat} (he : e ≠ 0) (z : Int) : linesD0 (e, z, []) = .tup [.sl [] 0 .full, inA (e : Int), inA z] := by unfold linesD0; rw [if_neg he]; rfl
theorem linesD0_2 (z : Int) : linesD0 (2, z, []) = .tup [.sl [] 0 .full, inA 2, inA z] := rfl
theorem linesD0_5 (z : Int) : linesD0 (5, z, []) = .tup [.sl [] 0 .full, inA 5, inA z] := rfl
theorem linesD0_0 (z : Int) (ls : List Ln) : linesD0 (0, z, ls) = .tup [lnsA ls, inA 0, inA z] := rfl
def lv_trammel_trammelref04_Lines : Nat → List Nat
  | 0 => [0, 1]
  | 1 => [0, 1]
  | 2 => []
  | 3 => [0, 1]
  | 4 => [0, 1, 7]
  | 5 => [0, 1, 7, 8]
  | 6 => [0, 1, 7, 8]
  | 7 => [0, 1, 7, 8]
  | 8 => [0, 1, 7, 8, 9]
  | 9 => [8]
  | 10 => [0, 1, 7, 8]
  | 11 => [1, 7]
  | 12 => [1, 7, 10]
  | 13 => [1, 7, 10]
  | 14 => [1, 7, 10]
  | 15 => [1, 7, 10, 11, 12]
  | 16 => [10, 12]
  | 17 => [1, 7, 10, 11]
  | 18 => [7]
  | _ => []
end Go.Proofs.Ytjabaenpkimmjaa
