/- K: a loop cut from what comes behind it. No program is in sight. -/
import Derived.Test.YtiiaokjgbjhfhaaGreatDoorZ6
namespace Go.Proofs.YtiiaokjgbjhfhaaGreatDoor
set_option linter.unusedSimpArgs false
set_option linter.unusedVariables false
open Go.RowKit
end Go.Proofs.YtiiaokjgbjhfhaaGreatDoor
