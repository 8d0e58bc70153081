/- A form's value, the document's way, in K. -/
import Derived.Test.YtbcakdhgbjgkgaaCtD
import Derived.Test.YtbcakdhgbjgkgaaCtV
namespace Go.Proofs.Ytbcakdhgbjgkgaa
set_option linter.unusedSimpArgs false
set_option linter.unusedVariables false
open Go.RowKit
/-- A variable's value. -/
def ofN (vs : List Int) (v : Int) : Int := if v < (vs.length : Int) then vs.getD v.toNat 0 else 0
def farV (u : Int → Int) (t : List Tm) : Bool := t.any fun m => decide (u m.1 < -16777216) || decide (16777216 < u m.1)
def valueN (l : Ln) (vs : List Int) : Int × Int := if !linB l then (0, 5) else if farV (ofN vs) l.t then (0, 1) else (valL (ofN vs) l, 0)
theorem int_get2 {l : List Int} {i : Nat} (h : i < l.length) : (l.map inA).getD i .u = inA (l.getD i 0) := by rw [map_at h, List.getD_eq_getElem?_getD, List.getElem?_eq_getElem h]; rfl
def lv_trammel_trammelref01_Of : Nat → List Nat
  | 0 => [0, 1]
  | 1 => [0, 1]
  | 2 => [0, 1]
  | 3 => []
  | _ => []
theorem valT_take (u : Int → Int) {t : List Tm} {k : Nat} (h : k < t.length) : valT u (t.take (k + 1)) = valT u (t.take k) + u t[k].1 * t[k].2 := by
  rw [List.take_succ_eq_append_getElem h, valT_app]
  simp only [valT, Int.add_zero]
  rw [Int.mul_comm]
theorem mul_bd2 {x y : Int} (h1 : -16777216 ≤ x) (h2 : x ≤ 16777216) (h3 : -1073741824 ≤ y) (h4 : y ≤ 1073741824) : -18014398509481984 ≤ x * y ∧ x * y ≤ 18014398509481984 := by
  have h := Int.natAbs_mul x y
  have h5 : x.natAbs * y.natAbs ≤ 16777216 * 1073741824 := Nat.mul_le_mul (by omega) (by omega)
  omega
theorem valT_bd (u : Int → Int) : ∀ t : List Tm, (∀ m ∈ t, -16777216 ≤ u m.1 ∧ u m.1 ≤ 16777216 ∧ -1073741824 ≤ m.2 ∧ m.2 ≤ 1073741824) → -((t.length : Int) * 18014398509481984) ≤ valT u t ∧ valT u t ≤ (t.length : Int) * 18014398509481984
  | [], _ => by simp [valT]
  | m :: r, h => by
    obtain ⟨a1, a2, a3, a4⟩ := h m (by simp)
    obtain ⟨b1, b2⟩ := mul_bd2 a1 a2 a3 a4
    have ih := valT_bd u r fun x hx => h x (by simp [hx])
    rw [Int.mul_comm] at b1 b2
    rw [valT, List.length_cons]
    omega
theorem far_at {u : Int → Int} {t : List Tm} {k : Nat} (h : k < t.length) (hf : (decide (u t[k].1 < -16777216) || decide (16777216 < u t[k].1)) = true) : farV u t = true := List.any_eq_true.2 ⟨_, List.getElem_mem h, hf⟩
def lv_trammel_trammelref01_Value : Nat → List Nat
  | 0 => [0, 1]
  | 1 => [1, 2]
  | 2 => [1, 2, 6]
  | 3 => []
  | 4 => [1, 2]
  | 5 => [1, 2, 7]
  | 6 => [1, 2, 7, 8]
  | 7 => [1, 2, 7, 8]
  | 8 => [1, 2, 7, 8]
  | 9 => [1, 2, 7, 8, 9]
  | 10 => []
  | 11 => [1, 2, 7, 8, 9]
  | 12 => [7]
  | _ => []
theorem valueN_0 {l : Ln} {vs : List Int} (h : (valueN l vs).2 = 0) : (valueN l vs).1 = valL (ofN vs) l := by
  unfold valueN at h ⊢
  split
  · rename_i h1; rw [if_pos h1] at h; simp at h
  · rename_i h1
    rw [if_neg h1] at h
    split
    · rename_i h2; rw [if_pos h2] at h; simp at h
    · rfl
end Go.Proofs.Ytbcakdhgbjgkgaa
