/- Texts one behind the other: a step of a walk in K. -/
import Derived.Test.YtkjnkkmokojnpaaGreatDoorZ4
namespace Go.Proofs.YtkjnkkmokojnpaaGreatDoor
set_option linter.unusedSimpArgs false
set_option linter.unusedVariables false
open Go.RowKit
theorem cE {P : Program} (a b : List UInt8) (h : a.length + b.length≤9223372036854775807) : ∀ w,(((pure () : Sem Unit) >>= fun _=>Op.stringOp .add ⟨a.toArray⟩ ⟨b.toArray⟩) : Sem Value).run P w = .ok (.string ⟨(a ++ b).toArray⟩) w:=fun w=>by
 have h1 : ¬ ((((⟨a.toArray⟩ : ByteArray).size + (⟨b.toArray⟩ : ByteArray).size : Nat) : Int) > IntKind.i64.max):=by
  show ¬ (((a.length + b.length : Nat) : Int) > 9223372036854775807)
  omega
 rw [Sem.run_bind]
 simp only [Op.stringOp,if_neg h1]
 have h2 : (⟨a.toArray⟩ : ByteArray) ++ ⟨b.toArray⟩ = ⟨(a ++ b).toArray⟩:=by
  apply ByteArray.ext
  simp [ByteArray.data_append]
 rw [h2]
 rfl
end Go.Proofs.YtkjnkkmokojnpaaGreatDoor
