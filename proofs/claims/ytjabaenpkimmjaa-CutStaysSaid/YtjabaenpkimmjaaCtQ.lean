/- Cut: lines and steps, read as arguments; the laid variable. -/
import Derived.Test.YtjabaenpkimmjaaCtO
import Derived.Test.YtjabaenpkimmjaaCtQ0
import Derived.Test.YtjabaenpkimmjaaKR
import Derived.LaidLaws
import Derived.LaidHandle
import Derived.LaidMore
namespace Go.Proofs.Ytjabaenpkimmjaa
set_option linter.unusedSimpArgs false
set_option linter.unusedVariables false
open Go.RowKit Go.ChangeShapes Go.WideShapes
instance : Inhabited Stp := ⟨⟨[], 0⟩⟩
section
variable {H : Type} {enc : TypeId × Value → H} {w : World} {base : Nat} {spare : Nat → Bool} {held : Bool}
theorem rd_part (fuel : Nat) : Reads enc Try.prog w base spare held 38 tmA (fun _ => True) fuel :=
  (reads_struct2 Try.underlying38 rfl (n0 := 1) (by kernel_rfl) rfl (n1 := 1) (by kernel_rfl) (by kernel_rfl) (fun n _ => rd_z n) (fun n _ => rd_z n)).map id (fun _ => rfl) fun _ _ => trivial
theorem rd_step (fuel : Nat) : Reads enc Try.prog w base spare held 41 stpA (fun s => Lg s.parts) fuel :=
  (reads_struct2 Try.underlying41 rfl (n0 := 1) (by kernel_rfl) rfl (n1 := 1) (by kernel_rfl) (by kernel_rfl)
    (fun n _ => reads_slice Try.underlying39 (s := 2) (by kernel_rfl) (of_decide_eq_true (by kernel_rfl)) (by decide) (fun _ => rfl) fun n _ => rd_part n) (fun n _ => rd_z n)).map (fun p => (⟨p.1, p.2⟩ : Stp)) (fun p => by show [AV.sl (cellsM p.1) p.1.length .none, inA p.2] = _; rw [cellsM_fm]; rfl)
    fun _ h => lg_of (of_decide_eq_true (by kernel_rfl)) h.1.2
theorem rd_lins (fuel : Nat) : Reads enc Try.prog w base spare held 22 (fun l => [lnsA l]) OkPs fuel :=
  (reads_slice Try.underlying22 (s := 2) (by kernel_rfl) (of_decide_eq_true (by kernel_rfl)) (by decide) (fun _ => rfl) fun n _ => rd_lin n).map id (fun _ => rfl) fun _ h => ⟨lg_of (of_decide_eq_true (by kernel_rfl)) h.2, h.1⟩
/-- .. the number of premises, too. -/
theorem rd_lins2 (fuel : Nat) : Reads enc Try.prog w base spare held 22 (fun l => [lnsA l]) (fun l => OkPs l ∧ l.length ≤ 4398046511000) fuel :=
  (reads_slice Try.underlying22 (s := 2) (by kernel_rfl) (of_decide_eq_true (by kernel_rfl)) (by decide) (fun _ => rfl) fun n _ => rd_lin n).map id (fun _ => rfl) fun _ h => ⟨⟨lg_of (of_decide_eq_true (by kernel_rfl)) h.2, h.1⟩, by have := h.2; rw [show Try.prog.bytesOf 28 = 32 by kernel_rfl] at this; simp only [id_eq]; omega⟩
theorem rd_steps (fuel : Nat) : Reads enc Try.prog w base spare held 23 (fun l => [stpsA l]) OkSs fuel :=
  (reads_slice Try.underlying23 (s := 2) (by kernel_rfl) (of_decide_eq_true (by kernel_rfl)) (by decide) (fun _ => rfl) fun n _ => rd_step n).map id (fun _ => rfl) fun _ h => ⟨lg_of (of_decide_eq_true (by kernel_rfl)) h.2, h.1⟩
end
end Go.Proofs.Ytjabaenpkimmjaa
