/- CertPremises, CertApart in K, of what was read. -/
import Derived.Test.YtiiaokjgbjhfhaaGreatDoorZ40
import Derived.Test.YtiiaokjgbjhfhaaGreatDoorZ41
namespace Go.Proofs.YtiiaokjgbjhfhaaGreatDoor
set_option linter.unusedSimpArgs false
set_option linter.unusedVariables false
open Go.RowKit Go.ChangeShapes Go.WideShapes
section
variable {H : Type} {enc : TypeId × Value → H} {w : World} {base : Nat} {spare : Nat → Bool} {held : Bool}
theorem l9 (fuel : Nat) : Reads enc Tryz.prog w base spare held 22 (fun l => [eR l]) (fun l => Lg l) fuel :=
 (eB Tryz.underlying22 (s := 2) (by kernel_rfl) (of_decide_eq_true (by kernel_rfl)) (by decide) (fun _ => rfl) fun n _ => qu n).map id (fun _ => rfl) fun _ h => qS (of_decide_eq_true (by kernel_rfl)) h.2
theorem kz (fuel : Nat) : Reads enc Tryz.prog w base spare held 23 (fun c : List Int => [.sl (c.map inA) c.length .none]) (fun c => c.length ≤ 17592186044415) fuel :=
 (eB Tryz.underlying23 (s := 1) (by kernel_rfl) (of_decide_eq_true (by kernel_rfl)) (by decide) (fun _ => rfl) fun n _ => nK n).map id (fun l => by rw [← kY inA l];rfl)
  fun l h => by have := h.2;rw [show Tryz.prog.bytesOf 3 = 8 by kernel_rfl] at this;show l.length ≤ _;omega
end
theorem il (ls : List Ln) (zs : List Int) (h0 : Lg ls) (h1 : zs.length ≤ 17592186044415) : AFn Tryz.prog 3 [eR ls,.sl (zs.map inA) zs.length .none] [] (.c (.bool true)) [] := ik ls zs h0 (by unfold Lg;omega)
theorem ki (ls : List Ln) (zs vs : List Int) (h0 : Lg ls) (h1 : zs.length ≤ 17592186044415) : AFn Tryz.prog 4 [eR ls,.sl (zs.map inA) zs.length .none,.sl (vs.map inA) vs.length .none] [] (.c (.bool true)) [] := kh ls zs vs h0 (by unfold Lg;omega)
end Go.Proofs.YtiiaokjgbjhfhaaGreatDoor
