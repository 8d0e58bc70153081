/- Formulas, read as arguments. -/
import Derived.Test.YtbcakdhgbjgkgaaFvA
import Derived.Test.YtbcakdhgbjgkgaaCtQ0
import Derived.Test.YtbcakdhgbjgkgaaKRs
namespace Go.Proofs.Ytbcakdhgbjgkgaa
set_option linter.unusedSimpArgs false
set_option linter.unusedVariables false
open Go.RowKit Go.ChangeShapes Go.WideShapes
section
variable {H : Type} {enc : TypeId × Value → H} {w : World} {base : Nat} {spare : Nat → Bool} {held : Bool}
theorem rd_form : ∀ fuel, Reads enc Try.prog w base spare held 27 foA OkF fuel := fun fuel => by
  induction fuel using Nat.strongRecOn with
  | _ fuel ih =>
  exact (reads_struct3 Try.underlying27 rfl (n0 := 1) (by kernel_rfl) (n1 := 2) (by kernel_rfl) (n2 := 1) (by kernel_rfl) rfl rfl (by kernel_rfl)
    (fun n _ => rd_z n) (fun n _ => rd_lin n)
    (fun n hn => reads_slice Try.underlying25 (s := 4) (by kernel_rfl) (of_decide_eq_true (by kernel_rfl)) (by decide) foA_len fun m hm => ih m (by omega))).map (fun p => (.mk p.1 p.2.1 p.2.2 : Fo))
    (fun p => by rw [foA, fosA_fm]; rfl) fun p h => ⟨by have := h.2.1; unfold Lg; omega, lg_of (of_decide_eq_true (by kernel_rfl)) h.2.2.2, okFs_of h.2.2.1⟩
theorem rd_intsL (fuel : Nat) : Reads enc Try.prog w base spare held 30 (fun c : List Int => [.sl (c.map inA) c.length .none]) (fun c => c.length ≤ 17592186044415) fuel :=
  (reads_slice Try.underlying30 (s := 1) (by kernel_rfl) (of_decide_eq_true (by kernel_rfl)) (by decide) (fun _ => rfl) fun n _ => rd_z n).map id (fun l => by rw [← fm_one inA l]; rfl)
    fun l h => by have := h.2; rw [show Try.prog.bytesOf 3 = 8 by kernel_rfl] at this; show l.length ≤ _; omega
end
theorem gl_none {W : World} : Gl (Ztot W) := fun g cs hg => by cases hg
end Go.Proofs.Ytbcakdhgbjgkgaa
