/- Cut in K: sound forms, the document's way. -/
import Derived.Test.YtjabaenpkimmjaaCtC
namespace Go.Proofs.Ytjabaenpkimmjaa
set_option linter.unusedSimpArgs false
set_option linter.unusedVariables false
open Go.RowKit
def lv_trammel_trammelref01_Check : Nat → List Nat
  | 0 => [0]
  | 1 => [1]
  | 2 => []
  | 3 => [1]
  | 4 => [1, 3]
  | 5 => [1, 3]
  | 6 => [1, 3]
  | 7 => [1, 3, 4]
  | 8 => []
  | 9 => []
  | _ => []
end Go.Proofs.Ytjabaenpkimmjaa
