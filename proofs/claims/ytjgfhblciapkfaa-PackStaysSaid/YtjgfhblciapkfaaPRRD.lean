/- The document's Read in K. -/
import Derived.Test.YtjgfhblciapkfaaPRRC
import Derived.Test.YtjgfhblciapkfaaPRdD
namespace Go.Proofs.Ytjgfhblciapkfaa
set_option linter.unusedSimpArgs false
set_option linter.unusedVariables false
open Go.RowKit
def rReadA (p : List RecordD × Nat) : AV := .tup [.agg [recordsA p.1], intA (p.2 : Int)]
theorem drop_suff {ys b : List Nat} (h : ys <:+ b) {a : Nat} (ha : a = b.length - ys.length) : b.drop a = ys := by
  obtain ⟨pre, rfl⟩ := h
  simp at ha
  subst ha; simp
def lv_trammel_trammelref12_Read : Nat → List Nat
  | 0 => [0]
  | 1 => [0, 2]
  | 2 => [2]
  | 3 => [0, 2]
  | 4 => [0, 2, 4]
  | 5 => [0, 2, 4, 5]
  | 6 => [0, 2, 4, 5, 6]
  | 7 => [0, 2, 4, 5, 6, 7]
  | 8 => [0, 2, 4, 5, 6, 7]
  | 9 => [0, 2, 4, 5, 6, 7]
  | 10 => [0, 2, 4, 5, 6, 7, 8]
  | 11 => [0, 2, 4, 5, 6, 7, 8, 9]
  | 12 => [0, 2, 4, 5, 6, 7, 8, 9]
  | 13 => [0, 2, 4, 5, 6, 7, 8]
  | 14 => [0, 2, 4, 5, 6, 7, 8, 10]
  | 15 => [0, 2, 4, 5, 6, 7, 8, 10, 11]
  | 16 => [0, 2, 4, 5, 6, 7, 8, 10, 11]
  | 17 => [0, 2, 4, 5, 6, 7, 8, 10, 11]
  | 18 => [0, 2, 4, 5, 6, 7, 8]
  | 19 => [0, 2, 4, 5]
  | 20 => [2]
  | 21 => [0, 2, 4, 5]
  | 22 => [2]
  | 23 => [2, 5]
  | _ => []
end Go.Proofs.Ytjgfhblciapkfaa
