/- A number's bytes, in plain numbers. No program is in sight. -/
import Derived.Test.YtjgfhblciapkfaaKM
namespace Go.Proofs.Ytjgfhblciapkfaa
open Go.RowKit

/-- A whole number as a natural one: twice it, or for one below nothing twice less 1. -/
def zig (v : Int) : Nat := if 0 ≤ v then (2 * v).toNat else (-2 * v - 1).toNat
/-- Groups of seven bits, the lowest first. -/
def nb (n : Nat) : List Nat := if h : n < 128 then [n] else (n % 128 + 128) :: nb (n / 128)
termination_by n
decreasing_by omega
theorem nb_small {n : Nat} (h : n < 128) : nb n = [n] := by rw [nb]; simp [h]
theorem nb_big {n : Nat} (h : ¬ n < 128) : nb n = (n % 128 + 128) :: nb (n / 128) := by rw [nb]; simp [h]
theorem nb_byte : ∀ n : Nat, ∀ b ∈ nb n, b < 256 := fun n => by
  induction n using nb.induct with
  | case1 n h => rw [nb_small h]; simp; omega
  | case2 n h ih => rw [nb_big h]; intro b hb; simp at hb; rcases hb with rfl | hb; omega; exact ih b hb
theorem nb_len : ∀ k n : Nat, n < 128 ^ (k + 1) → (nb n).length ≤ k + 1
  | 0, n, h => by rw [nb_small (by simpa using h)]; simp
  | k + 1, n, h => by
    by_cases h1 : n < 128
    · rw [nb_small h1]; simp
    · rw [nb_big h1]
      have := nb_len k (n / 128) (by rw [Nat.div_lt_iff_lt_mul (by decide)]; rwa [Nat.pow_succ] at h)
      simp only [List.length_cons]; omega
theorem nb_len10 {n : Nat} (h : n < 18446744073709551616) : (nb n).length ≤ 10 := nb_len 9 n (Nat.lt_of_lt_of_le h (by decide))
theorem zig_lt {v : Int} (h : -9223372036854775808 ≤ v ∧ v ≤ 9223372036854775807) : zig v < 18446744073709551616 := by
  unfold zig; obtain ⟨h1, h2⟩ := h; split <;> omega
/-- The zigzag as the program writes it. -/
def num (v : Int) : List Nat := nb (zig v)
end Go.Proofs.Ytjgfhblciapkfaa
