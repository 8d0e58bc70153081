/- Cut: lines and steps, read as arguments; the laid variable. -/
import Derived.Test.YtijpbgflkdjcdaaCtO
import Derived.Test.YtijpbgflkdjcdaaKR
import Derived.LaidLaws
import Derived.LaidHandle
import Derived.LaidMore
namespace Go.Proofs.Ytijpbgflkdjcdaa
set_option linter.unusedSimpArgs false
set_option linter.unusedVariables false
open Go.RowKit Go.ChangeShapes Go.WideShapes
instance : Inhabited Ln := ⟨⟨0, []⟩⟩
instance : Inhabited Stp := ⟨⟨[], 0⟩⟩
section
variable {H : Type} {enc : TypeId × Value → H} {w : World} {base : Nat} {spare : Nat → Bool} {held : Bool}
theorem lg_of {α : Type} {l : List α} {b : Nat} (hb : 0 < b) (h : l.length * b ≤ 140737488351232) : Lg l := by
  have := Nat.le_mul_of_pos_right l.length hb
  unfold Lg; omega
theorem rd_z (fuel : Nat) : Reads enc Try.prog w base spare held 3 (fun z : Int => [inA z]) (fun z => -9223372036854775808 ≤ z ∧ z ≤ 9223372036854775807) fuel := reads_i64 Try.underlying3 fuel
theorem rd_mono (fuel : Nat) : Reads enc Try.prog w base spare held 41 tmA (fun _ => True) fuel :=
  (reads_struct2 Try.underlying41 rfl (n0 := 1) (by kernel_rfl) rfl (n1 := 1) (by kernel_rfl) (by kernel_rfl) (fun n _ => rd_z n) (fun n _ => rd_z n)).map id (fun _ => rfl) fun _ _ => trivial
theorem rd_part (fuel : Nat) : Reads enc Try.prog w base spare held 43 tmA (fun _ => True) fuel :=
  (reads_struct2 Try.underlying43 rfl (n0 := 1) (by kernel_rfl) rfl (n1 := 1) (by kernel_rfl) (by kernel_rfl) (fun n _ => rd_z n) (fun n _ => rd_z n)).map id (fun _ => rfl) fun _ _ => trivial
theorem rd_lin (fuel : Nat) : Reads enc Try.prog w base spare held 35 lnA (fun l => l.t.length ≤ 8796093022207) fuel :=
  (reads_struct2 Try.underlying35 rfl (n0 := 1) (by kernel_rfl) rfl (n1 := 1) (by kernel_rfl) (by kernel_rfl) (fun n _ => rd_z n)
    (fun n _ => reads_slice Try.underlying33 (s := 2) (by kernel_rfl) (of_decide_eq_true (by kernel_rfl)) (by decide) (fun _ => rfl) fun n _ => rd_mono n)).map (fun p => (⟨p.1, p.2⟩ : Ln)) (fun p => by show [inA p.1, AV.sl (cellsM p.2) p.2.length .none] = _; rw [cellsM_fm]; rfl)
    fun p h => by have := h.2.2; rw [show Try.prog.bytesOf 41 = 16 by kernel_rfl] at this; simp only; omega
theorem rd_step (fuel : Nat) : Reads enc Try.prog w base spare held 46 stpA (fun s => Lg s.parts) fuel :=
  (reads_struct2 Try.underlying46 rfl (n0 := 1) (by kernel_rfl) rfl (n1 := 1) (by kernel_rfl) (by kernel_rfl)
    (fun n _ => reads_slice Try.underlying44 (s := 2) (by kernel_rfl) (of_decide_eq_true (by kernel_rfl)) (by decide) (fun _ => rfl) fun n _ => rd_part n) (fun n _ => rd_z n)).map (fun p => (⟨p.1, p.2⟩ : Stp)) (fun p => by show [AV.sl (cellsM p.1) p.1.length .none, inA p.2] = _; rw [cellsM_fm]; rfl)
    fun _ h => lg_of (of_decide_eq_true (by kernel_rfl)) h.1.2
theorem rd_ints (fuel : Nat) : Reads enc Try.prog w base spare held 24 (fun c : List Int => [.sl (c.map inA) c.length .none]) (fun _ => True) fuel :=
  (reads_slice Try.underlying24 (s := 1) (by kernel_rfl) (of_decide_eq_true (by kernel_rfl)) (by decide) (fun _ => rfl) fun n _ => rd_z n).map id (fun l => by rw [← fm_one inA l]; rfl) fun _ _ => trivial
theorem rd_lins (fuel : Nat) : Reads enc Try.prog w base spare held 22 (fun l => [lnsA l]) OkPs fuel :=
  (reads_slice Try.underlying22 (s := 2) (by kernel_rfl) (of_decide_eq_true (by kernel_rfl)) (by decide) (fun _ => rfl) fun n _ => rd_lin n).map id (fun _ => rfl) fun _ h => ⟨lg_of (of_decide_eq_true (by kernel_rfl)) h.2, h.1⟩
theorem rd_steps (fuel : Nat) : Reads enc Try.prog w base spare held 23 (fun l => [stpsA l]) OkSs fuel :=
  (reads_slice Try.underlying23 (s := 2) (by kernel_rfl) (of_decide_eq_true (by kernel_rfl)) (by decide) (fun _ => rfl) fun n _ => rd_step n).map id (fun _ => rfl) fun _ h => ⟨lg_of (of_decide_eq_true (by kernel_rfl)) h.2, h.1⟩
end
end Go.Proofs.Ytijpbgflkdjcdaa
