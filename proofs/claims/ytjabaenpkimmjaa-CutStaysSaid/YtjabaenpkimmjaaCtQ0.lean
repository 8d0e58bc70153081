/- Forms and rows of numbers, read as arguments. -/
import Derived.Test.YtjabaenpkimmjaaCtA
import Derived.Test.YtjabaenpkimmjaaKR
namespace Go.Proofs.Ytjabaenpkimmjaa
set_option linter.unusedSimpArgs false
set_option linter.unusedVariables false
open Go.RowKit Go.ChangeShapes Go.WideShapes
instance : Inhabited Ln := ⟨⟨0, []⟩⟩
section
variable {H : Type} {enc : TypeId × Value → H} {w : World} {base : Nat} {spare : Nat → Bool} {held : Bool}
theorem lg_of {α : Type} {l : List α} {b : Nat} (hb : 0 < b) (h : l.length * b ≤ 140737488351232) : Lg l := by
  have := Nat.le_mul_of_pos_right l.length hb
  unfold Lg; omega
theorem rd_z (fuel : Nat) : Reads enc Try.prog w base spare held 3 (fun z : Int => [inA z]) (fun z => -9223372036854775808 ≤ z ∧ z ≤ 9223372036854775807) fuel := reads_i64 Try.underlying3 fuel
theorem rd_mono (fuel : Nat) : Reads enc Try.prog w base spare held 35 tmA (fun _ => True) fuel :=
  (reads_struct2 Try.underlying35 rfl (n0 := 1) (by kernel_rfl) rfl (n1 := 1) (by kernel_rfl) (by kernel_rfl) (fun n _ => rd_z n) (fun n _ => rd_z n)).map id (fun _ => rfl) fun _ _ => trivial
theorem rd_lin (fuel : Nat) : Reads enc Try.prog w base spare held 28 lnA (fun l => l.t.length ≤ 8796093022207) fuel :=
  (reads_struct2 Try.underlying28 rfl (n0 := 1) (by kernel_rfl) rfl (n1 := 1) (by kernel_rfl) (by kernel_rfl) (fun n _ => rd_z n)
    (fun n _ => reads_slice Try.underlying26 (s := 2) (by kernel_rfl) (of_decide_eq_true (by kernel_rfl)) (by decide) (fun _ => rfl) fun n _ => rd_mono n)).map (fun p => (⟨p.1, p.2⟩ : Ln)) (fun p => by show [inA p.1, AV.sl (cellsM p.2) p.2.length .none] = _; rw [cellsM_fm]; rfl)
    fun p h => by have := h.2.2; rw [show Try.prog.bytesOf 35 = 16 by kernel_rfl] at this; simp only; omega
theorem rd_ints (fuel : Nat) : Reads enc Try.prog w base spare held 58 (fun c : List Int => [.sl (c.map inA) c.length .none]) (fun _ => True) fuel :=
  (reads_slice Try.underlying58 (s := 1) (by kernel_rfl) (of_decide_eq_true (by kernel_rfl)) (by decide) (fun _ => rfl) fun n _ => rd_z n).map id (fun l => by rw [← fm_one inA l]; rfl) fun _ _ => trivial
end
end Go.Proofs.Ytjabaenpkimmjaa
