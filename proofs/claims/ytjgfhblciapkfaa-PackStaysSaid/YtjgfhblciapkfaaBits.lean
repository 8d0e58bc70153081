/- The bits of numbers, in plain numbers. No program is in sight. -/
import Derived.Test.YtjgfhblciapkfaaNum
namespace Go.Proofs.Ytjgfhblciapkfaa
set_option linter.unusedSimpArgs false
set_option linter.unusedVariables false
open Go.RowKit
theorem xor_ones (a : Nat) (ha : a < 18446744073709551616) : bits .xor .u64 (a : Int) 18446744073709551615 = ((18446744073709551615 - a : Nat) : Int) := by
  have h1 : (BitVec.ofInt 64 (a : Int)).toNat = a := by
    rw [BitVec.ofInt_natCast, BitVec.toNat_ofNat]; exact Nat.mod_eq_of_lt (by omega)
  have h2 : (BitVec.ofInt 64 18446744073709551615) = BitVec.allOnes 64 := by decide
  show IntKind.u64.wrap ((BitVec.ofInt 64 (a : Int) ^^^ BitVec.ofInt 64 18446744073709551615).toNat : Int) = _
  rw [h2, BitVec.xor_allOnes, BitVec.toNat_not, h1]
  simp only [IntKind.wrap, IntKind.bits, IntKind.signed]
  simp; omega
theorem xor_none (a : Nat) (ha : a < 18446744073709551616) : bits .xor .u64 (a : Int) 0 = (a : Int) := by
  have h1 : (BitVec.ofInt 64 (a : Int)).toNat = a := by
    rw [BitVec.ofInt_natCast, BitVec.toNat_ofNat]; exact Nat.mod_eq_of_lt (by omega)
  show IntKind.u64.wrap ((BitVec.ofInt 64 (a : Int) ^^^ BitVec.ofInt 64 0).toNat : Int) = _
  rw [show BitVec.ofInt 64 0 = 0#64 by decide, BitVec.xor_zero, h1]
  simp only [IntKind.wrap, IntKind.bits, IntKind.signed]
  simp; omega
theorem wrap_u64 (n : Int) : IntKind.u64.wrap n = n % 18446744073709551616 := by simp [IntKind.wrap, IntKind.bits, IntKind.signed]
theorem zig_bits {z : Int} (h1 : -9223372036854775808 ≤ z) (h2 : z ≤ 9223372036854775807) :
    bits BinOp.xor IntKind.u64 (IntKind.u64.wrap (IntKind.u64.wrap z * 2)) (IntKind.u64.wrap (z / 9223372036854775808)) = (zig z : Int) := by
  simp only [wrap_u64]
  unfold zig
  by_cases h : 0 ≤ z
  · rw [if_pos h, show z / 9223372036854775808 % 18446744073709551616 = 0 by omega, show z % 18446744073709551616 * 2 % 18446744073709551616 = (((2 * z).toNat : Nat) : Int) by omega]
    exact xor_none _ (by omega)
  · rw [if_neg h, show z / 9223372036854775808 % 18446744073709551616 = 18446744073709551615 by omega, show z % 18446744073709551616 * 2 % 18446744073709551616 = (((2 * z + 18446744073709551616).toNat : Nat) : Int) by omega, xor_ones _ (by omega)]
    congr 1; omega
theorem or_all : ∀ x : Fin 256, bits .or .u8 ((x.val : Nat) : Int) 128 = ((x.val % 128 + 128 : Nat) : Int) := by decide +kernel
theorem or_byte (N : Nat) : bits .or .u8 ((N : Int) % 256) 128 = ((N % 128 + 128 : Nat) : Int) := by
  have h := or_all ⟨N % 256, by omega⟩
  have e : (N : Int) % 256 = ((N % 256 : Nat) : Int) := by omega
  rw [e, h]
  congr 1
  show N % 256 % 128 + 128 = _
  omega
theorem low_byte {N : Nat} (h : N < 128) : IntKind.u8.wrap (N : Int) = (N : Int) := by simp [IntKind.wrap, IntKind.bits, IntKind.signed]; omega
end Go.Proofs.Ytjgfhblciapkfaa
