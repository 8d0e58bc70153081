/- Cut in K: maps of ints as cells; functions that leave all as it was, with boxes handed in. -/
import Derived.Test.YtiiaokjgbjhfhaaGreatDoorZ0
import Derived.Test.YtiiaokjgbjhfhaaGreatDoorZ8
namespace Go.Proofs.YtiiaokjgbjhfhaaGreatDoor
set_option linter.unusedSimpArgs false
set_option linter.unusedVariables false
open Go.RowKit
abbrev inA (n : Int) : AV := .c (.int .i64 n)
def bx : List Tm → List AV
 | [] => []
 | m :: r => inA m.1 :: inA m.2 :: bx r
end Go.Proofs.YtiiaokjgbjhfhaaGreatDoor
