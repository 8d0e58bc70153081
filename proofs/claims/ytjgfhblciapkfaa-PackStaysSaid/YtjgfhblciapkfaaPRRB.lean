/- The document's reader in K: clauses, steps. -/
import Derived.Test.YtjgfhblciapkfaaPRRA
namespace Go.Proofs.Ytjgfhblciapkfaa
set_option linter.unusedSimpArgs false
set_option linter.unusedVariables false
open Go.RowKit
def lv_trammel_trammelref12_Reader_clause : Nat → List Nat
  | 0 => [0]
  | 1 => [0]
  | 2 => [0, 3]
  | 3 => [0, 3, 4]
  | 4 => [0, 3, 4, 5]
  | 5 => [0, 3, 4, 5]
  | 6 => [0, 3, 4, 5]
  | 7 => [4]
  | _ => []
def lv_trammel_trammelref12_Reader_steps : Nat → List Nat
  | 0 => [0]
  | 1 => [0]
  | 2 => [0, 3]
  | 3 => [0, 3, 4]
  | 4 => [0, 3, 4, 5]
  | 5 => [0, 3, 4, 5]
  | 6 => [0, 3, 4, 5]
  | 7 => [0, 3, 4, 5, 6]
  | 8 => [0, 3, 4, 5, 6, 7]
  | 9 => [0, 3, 4, 5, 6, 7, 8]
  | 10 => [0, 3, 4, 5, 6, 7, 8]
  | 11 => [0, 3, 4, 5, 6, 7, 8]
  | 12 => [0, 3, 4, 5, 6, 7, 8, 9]
  | 13 => [0, 3, 4, 5, 6, 7, 8, 9]
  | 14 => [0, 3, 4, 5, 6, 7, 8, 9]
  | 15 => [0, 3, 4, 5, 6]
  | 16 => [0, 3, 4, 5, 6]
  | 17 => [4]
  | _ => []
end Go.Proofs.Ytjgfhblciapkfaa
