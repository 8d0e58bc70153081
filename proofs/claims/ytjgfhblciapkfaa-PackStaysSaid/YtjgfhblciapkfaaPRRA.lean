/- The document's reader in K: a byte, a number, how many. -/
import Derived.Test.YtjgfhblciapkfaaPRd
import Derived.Test.YtjgfhblciapkfaaPDat
namespace Go.Proofs.Ytjgfhblciapkfaa
set_option linter.unusedSimpArgs false
set_option linter.unusedVariables false
open Go.RowKit
theorem suff_get {x : Nat} {r b : List Nat} (h : x :: r <:+ b) {a : Nat} (ha : a + (r.length + 1) = b.length) : (b.map byteN).getD a .u = byteN x := by
  obtain ⟨pre, rfl⟩ := h
  simp only [List.length_append, List.length_cons] at ha
  obtain rfl : a = pre.length := by omega
  rw [List.getD_eq_getElem?_getD, List.getElem?_map]
  simp
def lv_trammel_trammelref12_Reader_one : Nat → List Nat
  | 0 => [0]
  | 1 => [0]
  | 2 => [0]
  | 3 => []
  | 4 => [0]
  | 5 => [0]
  | _ => []
def lv_trammel_trammelref12_Reader_number : Nat → List Nat
  | 0 => [0]
  | 1 => [0]
  | 2 => [0, 3]
  | 3 => [0, 3, 4]
  | 4 => [0, 3, 4, 5]
  | 5 => [0, 3, 4, 5]
  | 6 => [0, 3, 4, 5]
  | 7 => [0, 3, 4, 5, 6]
  | 8 => [0]
  | 9 => []
  | 10 => [0, 3, 4, 5, 6]
  | 11 => [0, 3, 4, 5, 6]
  | 12 => [0, 3, 4, 5, 6]
  | 13 => [3]
  | 14 => [3]
  | 15 => [3]
  | 16 => [0]
  | 17 => []
  | _ => []
def lv_trammel_trammelref12_Reader_many : Nat → List Nat
  | 0 => [0]
  | 1 => [0]
  | 2 => [0, 3]
  | 3 => [0]
  | 4 => []
  | 5 => [3]
  | _ => []
end Go.Proofs.Ytjgfhblciapkfaa
