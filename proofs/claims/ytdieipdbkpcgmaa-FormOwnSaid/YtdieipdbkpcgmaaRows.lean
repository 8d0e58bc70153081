/-
  NARROWER THAN 'FOR EVERY INPUT', by the rows' own cells (each row's printed sentence says how): FormValues: loops · FormOwn: loops · FormChecks: loops · FormVars: loops · FormStays: loops.
  DERIVED. THE GIVEN ROWS OF THIS SEAT. 6 by the template 'for every input the law returns true; each argument reads behind the call as it read before'; 0 by the template 'total and deterministic' (their statements: YtdieipdbkpcgmaaTotals.lean).
  GIVEN WITH THE SEED: the statements are not yours to turn. If you find one false, say at which input.
  Laid BY PROGRAM, IN A SANDBOX (cutbox-rows.mjs): the forced cells as the released guide's own fill.sh prints them over the translation 47c16e927ed02c93… (all of the seat's roots in one cut). By AI agents, Wed Nov 11 2026. No macro, syntax, notation, axiom, sorry.
-/
import Derived.Test.YtdieipdbkpcgmaaChecked
import GoSem.Claim
import GoSem.ClaimJoined
import GoSem.ClaimMapViews
import Derived.JoinedTies
import Derived.KernelRfl
namespace Go.Proofs.Ytdieipdbkpcgmaa
/- THE CELL 'sum', in the pinned program and in every row, IS THE sha256 OF THE DUMP (.gsa) THAT YtdieipdbkpcgmaaProg.lean LOADS. Nothing in Lean hashes anything: it is a label: what it is worth is what the hold of that sum in a sandbox is worth. -/
noncomputable def Try.pinned : Pinned := { name := "ytdieipdbkpcgmaa", sum := "47c16e927ed02c93e78d2740506fcdef36b9de1cf43ed88fc17ea0493fa0e6a2", checked := Try.checked }
namespace Rows
def none {H : Type} : Left H := { results := [], args := [] }

/-- 'trammellaw02.FormLong': WHATEVER THE INPUT: true; the input reads as it did. -/
def formLongSpec : ChangeSpec := { name := "formLong", fn := fun _ => fun
  | [d] => { results := [.lit (.bool true)], args := [d] }
  | _ => none }
def formLongRow : OpenClaim := { program := "ytdieipdbkpcgmaa", sum := "47c16e927ed02c93e78d2740506fcdef36b9de1cf43ed88fc17ea0493fa0e6a2", func := "trammel/trammellaw02.FormLong", spec := "formLong", unfollowed := true, recurses := true, apart := false }
def FormLongSaid : Prop := formLongRow.holds Try.pinned (OpenSpec.ofChange formLongSpec)

/-- ITS FALSE NEIGHBOUR: 'it returns false'. Refute it at one input. -/
def formLongWrong : ChangeSpec := { name := "formLong", fn := fun _ => fun
  | [d] => { results := [.lit (.bool false)], args := [d] }
  | _ => none }
def FormLongWrongFalsely : Prop := formLongRow.holds Try.pinned (OpenSpec.ofChange formLongWrong)

/-- 'trammellaw02.FormValues': WHATEVER THE INPUT: true; the input reads as it did. -/
def formValuesSpec : ChangeSpec := { name := "formValues", fn := fun _ => fun
  | [d1, d2] => { results := [.lit (.bool true)], args := [d1, d2] }
  | _ => none }
def formValuesRow : OpenClaim := { program := "ytdieipdbkpcgmaa", sum := "47c16e927ed02c93e78d2740506fcdef36b9de1cf43ed88fc17ea0493fa0e6a2", func := "trammel/trammellaw02.FormValues", spec := "formValues", unfollowed := true, recurses := true, loops := true, apart := false }
def FormValuesSaid : Prop := formValuesRow.holds Try.pinned (OpenSpec.ofChange formValuesSpec)

/-- ITS FALSE NEIGHBOUR: 'it returns false'. Refute it at one input. -/
def formValuesWrong : ChangeSpec := { name := "formValues", fn := fun _ => fun
  | [d1, d2] => { results := [.lit (.bool false)], args := [d1, d2] }
  | _ => none }
def FormValuesWrongFalsely : Prop := formValuesRow.holds Try.pinned (OpenSpec.ofChange formValuesWrong)

/-- 'trammellaw02.FormOwn': WHATEVER THE INPUT: true; the input reads as it did. -/
def formOwnSpec : ChangeSpec := { name := "formOwn", fn := fun _ => fun
  | [d1, d2, d3, d4] => { results := [.lit (.bool true)], args := [d1, d2, d3, d4] }
  | _ => none }
def formOwnRow : OpenClaim := { program := "ytdieipdbkpcgmaa", sum := "47c16e927ed02c93e78d2740506fcdef36b9de1cf43ed88fc17ea0493fa0e6a2", func := "trammel/trammellaw02.FormOwn", spec := "formOwn", unfollowed := true, recurses := true, loops := true, apart := false }
def FormOwnSaid : Prop := formOwnRow.holds Try.pinned (OpenSpec.ofChange formOwnSpec)

/-- ITS FALSE NEIGHBOUR: 'it returns false'. Refute it at one input. -/
def formOwnWrong : ChangeSpec := { name := "formOwn", fn := fun _ => fun
  | [d1, d2, d3, d4] => { results := [.lit (.bool false)], args := [d1, d2, d3, d4] }
  | _ => none }
def FormOwnWrongFalsely : Prop := formOwnRow.holds Try.pinned (OpenSpec.ofChange formOwnWrong)

/-- 'trammellaw02.FormChecks': WHATEVER THE INPUT: true; the input reads as it did. -/
def formChecksSpec : ChangeSpec := { name := "formChecks", fn := fun _ => fun
  | [d] => { results := [.lit (.bool true)], args := [d] }
  | _ => none }
def formChecksRow : OpenClaim := { program := "ytdieipdbkpcgmaa", sum := "47c16e927ed02c93e78d2740506fcdef36b9de1cf43ed88fc17ea0493fa0e6a2", func := "trammel/trammellaw02.FormChecks", spec := "formChecks", unfollowed := true, recurses := true, loops := true, apart := false }
def FormChecksSaid : Prop := formChecksRow.holds Try.pinned (OpenSpec.ofChange formChecksSpec)

/-- ITS FALSE NEIGHBOUR: 'it returns false'. Refute it at one input. -/
def formChecksWrong : ChangeSpec := { name := "formChecks", fn := fun _ => fun
  | [d] => { results := [.lit (.bool false)], args := [d] }
  | _ => none }
def FormChecksWrongFalsely : Prop := formChecksRow.holds Try.pinned (OpenSpec.ofChange formChecksWrong)

/-- 'trammellaw02.FormVars': WHATEVER THE INPUT: true; the input reads as it did. -/
def formVarsSpec : ChangeSpec := { name := "formVars", fn := fun _ => fun
  | [d] => { results := [.lit (.bool true)], args := [d] }
  | _ => none }
def formVarsRow : OpenClaim := { program := "ytdieipdbkpcgmaa", sum := "47c16e927ed02c93e78d2740506fcdef36b9de1cf43ed88fc17ea0493fa0e6a2", func := "trammel/trammellaw02.FormVars", spec := "formVars", unfollowed := true, recurses := true, loops := true, apart := false }
def FormVarsSaid : Prop := formVarsRow.holds Try.pinned (OpenSpec.ofChange formVarsSpec)

/-- ITS FALSE NEIGHBOUR: 'it returns false'. Refute it at one input. -/
def formVarsWrong : ChangeSpec := { name := "formVars", fn := fun _ => fun
  | [d] => { results := [.lit (.bool false)], args := [d] }
  | _ => none }
def FormVarsWrongFalsely : Prop := formVarsRow.holds Try.pinned (OpenSpec.ofChange formVarsWrong)

/-- 'trammellaw02.FormStays': WHATEVER THE INPUT: true; the input reads as it did. -/
def formStaysSpec : ChangeSpec := { name := "formStays", fn := fun _ => fun
  | [d1, d2] => { results := [.lit (.bool true)], args := [d1, d2] }
  | _ => none }
def formStaysRow : OpenClaim := { program := "ytdieipdbkpcgmaa", sum := "47c16e927ed02c93e78d2740506fcdef36b9de1cf43ed88fc17ea0493fa0e6a2", func := "trammel/trammellaw02.FormStays", spec := "formStays", unfollowed := true, recurses := true, loops := true, apart := false }
def FormStaysSaid : Prop := formStaysRow.holds Try.pinned (OpenSpec.ofChange formStaysSpec)

/-- ITS FALSE NEIGHBOUR: 'it returns false'. Refute it at one input. -/
def formStaysWrong : ChangeSpec := { name := "formStays", fn := fun _ => fun
  | [d1, d2] => { results := [.lit (.bool false)], args := [d1, d2] }
  | _ => none }
def FormStaysWrongFalsely : Prop := formStaysRow.holds Try.pinned (OpenSpec.ofChange formStaysWrong)

/- THE SECOND FORM. 'bulk': how many values and letters a reading holds, each counted each time it is reached (what is shared counts as often as it is met; a slice's spare places count too). A statement '..UptoSaid' is the law's where the arguments, and the package variables that the reading takes, are together of bulk at most 1048576: NARROWER than '..Said'. Prove '..Said' where nothing that the law and all that it calls make is longer than what came in: it says more and counts as full. Else prove '..UptoSaid'. A law counts once. -/
mutual
def uptoBulk {H : Type} : DataW H → Nat
  | .lit (.string bytes) => bytes.length + 1
  | .lit _ => 1
  | .nil => 1
  | .ptr d => uptoBulk d + 1
  | .slice elems spare => uptoBulkAll elems + uptoBulkAll spare + 1
  | .agg parts => uptoBulkAll parts + 1
  | .iface _ d => uptoBulk d + 1
  | .map entries => uptoBulkEntries entries + 1
  | .held _ => 1
def uptoBulkAll {H : Type} : List (DataW H) → Nat
  | [] => 0
  | d :: r => uptoBulk d + uptoBulkAll r
def uptoBulkEntries {H : Type} : List (Lit × DataW H) → Nat
  | [] => 0
  | x :: r => uptoBulkEntry x + uptoBulkEntries r
def uptoBulkEntry {H : Type} : Lit × DataW H → Nat
  | (.string bytes, d) => bytes.length + uptoBulk d + 1
  | (_, d) => uptoBulk d + 1
 end
def uptoSmall : (H : Type) → List (DataW H) → Bool := fun _ ds => decide (uptoBulkAll ds ≤ 1048576)
def OpenSpec.upto (s : _root_.Go.ChangeSpec) : _root_.Go.OpenSpec := { _root_.Go.OpenSpec.ofChange s with cond := some uptoSmall }

/-- 'trammellaw02.FormLong', WHERE WHAT IT READS IS OF BULK AT MOST 1048576: true; the input reads as it did. -/
def formLongUptoRow : OpenClaim := { program := "ytdieipdbkpcgmaa", sum := "47c16e927ed02c93e78d2740506fcdef36b9de1cf43ed88fc17ea0493fa0e6a2", func := "trammel/trammellaw02.FormLong", spec := "formLong", unfollowed := true, recurses := true, apart := false, narrowed := true }
def FormLongUptoSaid : Prop := formLongUptoRow.holds Try.pinned (OpenSpec.upto formLongSpec)

/-- 'trammellaw02.FormValues', WHERE WHAT IT READS IS OF BULK AT MOST 1048576: true; the input reads as it did. -/
def formValuesUptoRow : OpenClaim := { program := "ytdieipdbkpcgmaa", sum := "47c16e927ed02c93e78d2740506fcdef36b9de1cf43ed88fc17ea0493fa0e6a2", func := "trammel/trammellaw02.FormValues", spec := "formValues", unfollowed := true, recurses := true, loops := true, apart := false, narrowed := true }
def FormValuesUptoSaid : Prop := formValuesUptoRow.holds Try.pinned (OpenSpec.upto formValuesSpec)

/-- 'trammellaw02.FormOwn', WHERE WHAT IT READS IS OF BULK AT MOST 1048576: true; the input reads as it did. -/
def formOwnUptoRow : OpenClaim := { program := "ytdieipdbkpcgmaa", sum := "47c16e927ed02c93e78d2740506fcdef36b9de1cf43ed88fc17ea0493fa0e6a2", func := "trammel/trammellaw02.FormOwn", spec := "formOwn", unfollowed := true, recurses := true, loops := true, apart := false, narrowed := true }
def FormOwnUptoSaid : Prop := formOwnUptoRow.holds Try.pinned (OpenSpec.upto formOwnSpec)

/-- 'trammellaw02.FormChecks', WHERE WHAT IT READS IS OF BULK AT MOST 1048576: true; the input reads as it did. -/
def formChecksUptoRow : OpenClaim := { program := "ytdieipdbkpcgmaa", sum := "47c16e927ed02c93e78d2740506fcdef36b9de1cf43ed88fc17ea0493fa0e6a2", func := "trammel/trammellaw02.FormChecks", spec := "formChecks", unfollowed := true, recurses := true, loops := true, apart := false, narrowed := true }
def FormChecksUptoSaid : Prop := formChecksUptoRow.holds Try.pinned (OpenSpec.upto formChecksSpec)

/-- 'trammellaw02.FormVars', WHERE WHAT IT READS IS OF BULK AT MOST 1048576: true; the input reads as it did. -/
def formVarsUptoRow : OpenClaim := { program := "ytdieipdbkpcgmaa", sum := "47c16e927ed02c93e78d2740506fcdef36b9de1cf43ed88fc17ea0493fa0e6a2", func := "trammel/trammellaw02.FormVars", spec := "formVars", unfollowed := true, recurses := true, loops := true, apart := false, narrowed := true }
def FormVarsUptoSaid : Prop := formVarsUptoRow.holds Try.pinned (OpenSpec.upto formVarsSpec)

/-- 'trammellaw02.FormStays', WHERE WHAT IT READS IS OF BULK AT MOST 1048576: true; the input reads as it did. -/
def formStaysUptoRow : OpenClaim := { program := "ytdieipdbkpcgmaa", sum := "47c16e927ed02c93e78d2740506fcdef36b9de1cf43ed88fc17ea0493fa0e6a2", func := "trammel/trammellaw02.FormStays", spec := "formStays", unfollowed := true, recurses := true, loops := true, apart := false, narrowed := true }
def FormStaysUptoSaid : Prop := formStaysUptoRow.holds Try.pinned (OpenSpec.upto formStaysSpec)

end Rows
end Go.Proofs.Ytdieipdbkpcgmaa
