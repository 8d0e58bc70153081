/-
  NARROWER THAN 'FOR EVERY INPUT', by the rows' own cells (each row's printed sentence says how): CutLines: laid · CutRefutes: laid · CutLong: laid.
  DERIVED. THE GIVEN ROWS OF THIS SEAT. 3 by the template 'for every input the law returns true; each argument reads behind the call as it read before'; 0 by the template 'total and deterministic' (their statements: YtijpbgflkdjcdaaDoorTotals.lean).
  GIVEN WITH THE SEED: the statements are not yours to turn. If you find one false, say at which input.
  Laid BY PROGRAM, IN A SANDBOX (cutbox-rows.mjs): the forced cells as the released guide's own fill.sh prints them over the translation 3f5e1de9fef19f39… (all of the seat's roots in one cut). By AI agents, Wed Nov 11 2026. No macro, syntax, notation, axiom, sorry.
-/
import Derived.Test.YtijpbgflkdjcdaaDoorChecked
import GoSem.Claim
import GoSem.ClaimJoined
import GoSem.ClaimMapViews
import Derived.JoinedTies
import Derived.KernelRfl
namespace Go.Proofs.YtijpbgflkdjcdaaDoor
/- THE CELL 'sum', in the pinned program and in every row, IS THE sha256 OF THE DUMP (.gsa) THAT YtijpbgflkdjcdaaDoorProg.lean LOADS. Nothing in Lean hashes anything: it is a label: what it is worth is what the hold of that sum in a sandbox is worth. -/
noncomputable def Tryd.pinned : Pinned := { name := "ytijpbgflkdjcdaadoor", sum := "3f5e1de9fef19f39f8c9d476a1329472697221f408f2aeb43954a6d3820f7de2", checked := Tryd.checked }
namespace Rows
def none {H : Type} : Left H := { results := [], args := [] }

/- WHAT THE LISTED PACKAGE-LEVEL VARIABLES READ AS WHEN THE CALL BEGINS. Each datum BY PROGRAM (the guide's laid-datum.mjs) off the statement by which the dump's own 'gosem.cut.vars' lays the variable. In a bare row this is a premise. The card (YtijpbgflkdjcdaaDoorCards.lean) ties it to the program's text. -/
def laid_errors_errorType {H : Type} : DataW H := .iface "internal/reflectlite.rtype" (.agg [.ptr (.lit (.string [101, 114, 114, 111, 114]))])

/-- 'trammellaw04.CutLines': WHATEVER THE INPUT: true; the input reads as it did. -/
def cutLinesSpec : ChangeSpec := { name := "cutLines", fn := fun _ => fun
  | [d1, d2] => { results := [.lit (.bool true)], args := [d1, d2] }
  | _ => none }
def cutLinesRow : OpenClaim := { program := "ytijpbgflkdjcdaadoor", sum := "3f5e1de9fef19f39f8c9d476a1329472697221f408f2aeb43954a6d3820f7de2", func := "trammel/trammellaw04.CutLines", spec := "cutLines", inPlace := ["internal/reflectlite.ValueOf", "(internal/reflectlite.Value).Type", "(internal/reflectlite.Value).IsNil", "internal/reflectlite.TypeOf", "(internal/reflectlite.Value).Elem", "(internal/reflectlite.Value).Set"], unfollowed := true, recurses := true, named := ["errors.errorType"], apart := false, laid := [("errors.errorType", laid_errors_errorType)] }
def CutLinesSaid : Prop := cutLinesRow.holds Tryd.pinned (OpenSpec.ofChange cutLinesSpec)

/-- ITS FALSE NEIGHBOUR: 'it returns false'. Refute it at one input. -/
def cutLinesWrong : ChangeSpec := { name := "cutLines", fn := fun _ => fun
  | [d1, d2] => { results := [.lit (.bool false)], args := [d1, d2] }
  | _ => none }
def CutLinesWrongFalsely : Prop := cutLinesRow.holds Tryd.pinned (OpenSpec.ofChange cutLinesWrong)

/-- 'trammellaw04.CutRefutes': WHATEVER THE INPUT: true; the input reads as it did. -/
def cutRefutesSpec : ChangeSpec := { name := "cutRefutes", fn := fun _ => fun
  | [d1, d2] => { results := [.lit (.bool true)], args := [d1, d2] }
  | _ => none }
def cutRefutesRow : OpenClaim := { program := "ytijpbgflkdjcdaadoor", sum := "3f5e1de9fef19f39f8c9d476a1329472697221f408f2aeb43954a6d3820f7de2", func := "trammel/trammellaw04.CutRefutes", spec := "cutRefutes", inPlace := ["internal/reflectlite.ValueOf", "(internal/reflectlite.Value).Type", "(internal/reflectlite.Value).IsNil", "internal/reflectlite.TypeOf", "(internal/reflectlite.Value).Elem", "(internal/reflectlite.Value).Set"], unfollowed := true, recurses := true, named := ["errors.errorType"], apart := false, laid := [("errors.errorType", laid_errors_errorType)] }
def CutRefutesSaid : Prop := cutRefutesRow.holds Tryd.pinned (OpenSpec.ofChange cutRefutesSpec)

/-- ITS FALSE NEIGHBOUR: 'it returns false'. Refute it at one input. -/
def cutRefutesWrong : ChangeSpec := { name := "cutRefutes", fn := fun _ => fun
  | [d1, d2] => { results := [.lit (.bool false)], args := [d1, d2] }
  | _ => none }
def CutRefutesWrongFalsely : Prop := cutRefutesRow.holds Tryd.pinned (OpenSpec.ofChange cutRefutesWrong)

/-- 'trammellaw04.CutLong': WHATEVER THE INPUT: true; the input reads as it did. -/
def cutLongSpec : ChangeSpec := { name := "cutLong", fn := fun _ => fun
  | [d1, d2] => { results := [.lit (.bool true)], args := [d1, d2] }
  | _ => none }
def cutLongRow : OpenClaim := { program := "ytijpbgflkdjcdaadoor", sum := "3f5e1de9fef19f39f8c9d476a1329472697221f408f2aeb43954a6d3820f7de2", func := "trammel/trammellaw04.CutLong", spec := "cutLong", inPlace := ["internal/reflectlite.ValueOf", "(internal/reflectlite.Value).Type", "(internal/reflectlite.Value).IsNil", "internal/reflectlite.TypeOf", "(internal/reflectlite.Value).Elem", "(internal/reflectlite.Value).Set"], unfollowed := true, recurses := true, named := ["errors.errorType"], apart := false, laid := [("errors.errorType", laid_errors_errorType)] }
def CutLongSaid : Prop := cutLongRow.holds Tryd.pinned (OpenSpec.ofChange cutLongSpec)

/-- ITS FALSE NEIGHBOUR: 'it returns false'. Refute it at one input. -/
def cutLongWrong : ChangeSpec := { name := "cutLong", fn := fun _ => fun
  | [d1, d2] => { results := [.lit (.bool false)], args := [d1, d2] }
  | _ => none }
def CutLongWrongFalsely : Prop := cutLongRow.holds Tryd.pinned (OpenSpec.ofChange cutLongWrong)

/- THE SECOND FORM. 'bulk': how many values and letters a reading holds, each counted each time it is reached (what is shared counts as often as it is met; a slice's spare places count too). A statement '..UptoSaid' is the law's where the arguments, and the package variables that the reading takes, are together of bulk at most 1048576: NARROWER than '..Said'. Prove '..Said' where nothing that the law and all that it calls make is longer than what came in: it says more and counts as full. Else prove '..UptoSaid'. A law counts once. -/
mutual
def uptoBulk {H : Type} : DataW H → Nat
  | .lit (.string bytes) => bytes.length + 1
  | .lit _ => 1
  | .nil => 1
  | .ptr d => uptoBulk d + 1
  | .slice elems spare => uptoBulkAll elems + uptoBulkAll spare + 1
  | .agg parts => uptoBulkAll parts + 1
  | .iface _ d => uptoBulk d + 1
  | .map entries => uptoBulkEntries entries + 1
  | .held _ => 1
def uptoBulkAll {H : Type} : List (DataW H) → Nat
  | [] => 0
  | d :: r => uptoBulk d + uptoBulkAll r
def uptoBulkEntries {H : Type} : List (Lit × DataW H) → Nat
  | [] => 0
  | x :: r => uptoBulkEntry x + uptoBulkEntries r
def uptoBulkEntry {H : Type} : Lit × DataW H → Nat
  | (.string bytes, d) => bytes.length + uptoBulk d + 1
  | (_, d) => uptoBulk d + 1
 end
def uptoSmall : (H : Type) → List (DataW H) → Bool := fun _ ds => decide (uptoBulkAll ds ≤ 1048576)
def OpenSpec.upto (s : _root_.Go.ChangeSpec) : _root_.Go.OpenSpec := { _root_.Go.OpenSpec.ofChange s with cond := some uptoSmall }

/-- 'trammellaw04.CutLines', WHERE WHAT IT READS IS OF BULK AT MOST 1048576: true; the input reads as it did. -/
def cutLinesUptoRow : OpenClaim := { program := "ytijpbgflkdjcdaadoor", sum := "3f5e1de9fef19f39f8c9d476a1329472697221f408f2aeb43954a6d3820f7de2", func := "trammel/trammellaw04.CutLines", spec := "cutLines", inPlace := ["internal/reflectlite.ValueOf", "(internal/reflectlite.Value).Type", "(internal/reflectlite.Value).IsNil", "internal/reflectlite.TypeOf", "(internal/reflectlite.Value).Elem", "(internal/reflectlite.Value).Set"], unfollowed := true, recurses := true, named := ["errors.errorType"], apart := false, laid := [("errors.errorType", laid_errors_errorType)], narrowed := true }
def CutLinesUptoSaid : Prop := cutLinesUptoRow.holds Tryd.pinned (OpenSpec.upto cutLinesSpec)

/-- 'trammellaw04.CutRefutes', WHERE WHAT IT READS IS OF BULK AT MOST 1048576: true; the input reads as it did. -/
def cutRefutesUptoRow : OpenClaim := { program := "ytijpbgflkdjcdaadoor", sum := "3f5e1de9fef19f39f8c9d476a1329472697221f408f2aeb43954a6d3820f7de2", func := "trammel/trammellaw04.CutRefutes", spec := "cutRefutes", inPlace := ["internal/reflectlite.ValueOf", "(internal/reflectlite.Value).Type", "(internal/reflectlite.Value).IsNil", "internal/reflectlite.TypeOf", "(internal/reflectlite.Value).Elem", "(internal/reflectlite.Value).Set"], unfollowed := true, recurses := true, named := ["errors.errorType"], apart := false, laid := [("errors.errorType", laid_errors_errorType)], narrowed := true }
def CutRefutesUptoSaid : Prop := cutRefutesUptoRow.holds Tryd.pinned (OpenSpec.upto cutRefutesSpec)

/-- 'trammellaw04.CutLong', WHERE WHAT IT READS IS OF BULK AT MOST 1048576: true; the input reads as it did. -/
def cutLongUptoRow : OpenClaim := { program := "ytijpbgflkdjcdaadoor", sum := "3f5e1de9fef19f39f8c9d476a1329472697221f408f2aeb43954a6d3820f7de2", func := "trammel/trammellaw04.CutLong", spec := "cutLong", inPlace := ["internal/reflectlite.ValueOf", "(internal/reflectlite.Value).Type", "(internal/reflectlite.Value).IsNil", "internal/reflectlite.TypeOf", "(internal/reflectlite.Value).Elem", "(internal/reflectlite.Value).Set"], unfollowed := true, recurses := true, named := ["errors.errorType"], apart := false, laid := [("errors.errorType", laid_errors_errorType)], narrowed := true }
def CutLongUptoSaid : Prop := cutLongUptoRow.holds Tryd.pinned (OpenSpec.upto cutLongSpec)

end Rows
end Go.Proofs.YtijpbgflkdjcdaaDoor
