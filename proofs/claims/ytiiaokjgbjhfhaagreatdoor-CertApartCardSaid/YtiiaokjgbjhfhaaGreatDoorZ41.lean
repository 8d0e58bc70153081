/- Forms and rows of numbers, read as arguments. -/
import Derived.Test.YtiiaokjgbjhfhaaGreatDoorZ13
import Derived.Test.YtiiaokjgbjhfhaaGreatDoorZ10
namespace Go.Proofs.YtiiaokjgbjhfhaaGreatDoor
set_option linter.unusedSimpArgs false
set_option linter.unusedVariables false
open Go.RowKit Go.ChangeShapes Go.WideShapes
instance : Inhabited Ln := ⟨⟨0,[]⟩⟩
section
variable {H : Type} {enc : TypeId × Value → H} {w : World} {base : Nat} {spare : Nat → Bool} {held : Bool}
theorem qS {α : Type} {l : List α} {b : Nat} (hb : 0 < b) (h : l.length * b ≤ 140737488351232) : Lg l := by
 have := Nat.le_mul_of_pos_right l.length hb
 unfold Lg;omega
theorem nK (fuel : Nat) : Reads enc Tryz.prog w base spare held 3 (fun z : Int => [inA z]) (fun z => -9223372036854775808 ≤ z ∧ z ≤ 9223372036854775807) fuel := my Tryz.underlying3 fuel
theorem oW (fuel : Nat) : Reads enc Tryz.prog w base spare held 57 tmA (fun _ => True) fuel :=
 (f7 Tryz.underlying57 rfl (n0 := 1) (by kernel_rfl) rfl (n1 := 1) (by kernel_rfl) (by kernel_rfl) (fun n _ => nK n) (fun n _ => nK n)).map id (fun _ => rfl) fun _ _ => trivial
theorem qu (fuel : Nat) : Reads enc Tryz.prog w base spare held 38 lnA (fun l => l.t.length ≤ 8796093022207) fuel :=
 (f7 Tryz.underlying38 rfl (n0 := 1) (by kernel_rfl) rfl (n1 := 1) (by kernel_rfl) (by kernel_rfl) (fun n _ => nK n)
  (fun n _ => eB Tryz.underlying36 (s := 2) (by kernel_rfl) (of_decide_eq_true (by kernel_rfl)) (by decide) (fun _ => rfl) fun n _ => oW n)).map (fun p => (⟨p.1,p.2⟩ : Ln)) (fun p => by show [inA p.1,AV.sl (bx p.2) p.2.length .none] = _;rw [dn];rfl)
  fun p h => by have := h.2.2;rw [show Tryz.prog.bytesOf 57 = 16 by kernel_rfl] at this;simp only;omega
theorem oV (fuel : Nat) : Reads enc Tryz.prog w base spare held 23 (fun c : List Int => [.sl (c.map inA) c.length .none]) (fun _ => True) fuel :=
 (eB Tryz.underlying23 (s := 1) (by kernel_rfl) (of_decide_eq_true (by kernel_rfl)) (by decide) (fun _ => rfl) fun n _ => nK n).map id (fun l => by rw [← kY inA l];rfl) fun _ _ => trivial
end
end Go.Proofs.YtiiaokjgbjhfhaaGreatDoor
