/- The document's reader in K: a reply. -/
import Derived.Test.YtjgfhblciapkfaaPRRB
namespace Go.Proofs.Ytjgfhblciapkfaa
set_option linter.unusedSimpArgs false
set_option linter.unusedVariables false
open Go.RowKit
def lv_trammel_trammelref12_Reader_reply : Nat → List Nat
  | 0 => [0]
  | 1 => [0, 2]
  | 2 => [0, 2, 3]
  | 3 => [0, 2, 3]
  | 4 => [0, 2, 3]
  | 5 => [0, 2, 3, 4]
  | 6 => [2, 4]
  | 7 => [0, 2, 4]
  | 8 => [0, 2, 4, 5]
  | 9 => [0, 2, 4, 5, 6]
  | 10 => [0, 2, 4, 5, 6]
  | 11 => [0, 2, 4, 5, 6]
  | 12 => [0, 2, 4, 5, 6, 7]
  | 13 => [0, 2, 4, 5, 6, 7]
  | 14 => [0, 2, 4, 5, 6, 7]
  | 15 => [0, 2, 4]
  | 16 => [0, 2, 4, 5]
  | 17 => [0, 2, 4, 5, 8]
  | 18 => [0, 2, 4, 5, 8]
  | 19 => [0, 2, 4, 5, 8]
  | 20 => [2, 4]
  | _ => []
end Go.Proofs.Ytjgfhblciapkfaa
