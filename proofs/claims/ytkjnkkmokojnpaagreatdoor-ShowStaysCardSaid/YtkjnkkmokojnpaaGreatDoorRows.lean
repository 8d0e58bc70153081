/-
  NARROWER THAN 'FOR EVERY INPUT', by the rows' own cells (each row's printed sentence says how): NamesCheck: loops, laid · NamesStays: loops, laid · ShowTexts: loops, laid · ShowBack: loops, laid · ShowStays: loops, laid.
  DERIVED. THE GIVEN ROWS OF THIS SEAT. 5 by the template 'for every input the law returns true; each argument reads behind the call as it read before'; 0 by the template 'total and deterministic' (their statements: YtkjnkkmokojnpaaGreatDoorTotals.lean).
  GIVEN WITH THE SEED: the statements are not yours to turn. If you find one false, say at which input.
  Laid BY PROGRAM, IN A SANDBOX (cutbox-rows.mjs): the forced cells as the released guide's own fill.sh prints them over the translation 3680321c8f9e1064… (all of the seat's roots in one cut). By AI agents, Wed Nov 11 2026. No macro, syntax, notation, axiom, sorry.
-/
import Derived.Test.YtkjnkkmokojnpaaGreatDoorChecked
import GoSem.Claim
import GoSem.ClaimJoined
import GoSem.ClaimMapViews
import Derived.JoinedTies
import Derived.KernelRfl
namespace Go.Proofs.YtkjnkkmokojnpaaGreatDoor
/- THE CELL 'sum', in the pinned program and in every row, IS THE sha256 OF THE DUMP (.gsa) THAT YtkjnkkmokojnpaaGreatDoorProg.lean LOADS. Nothing in Lean hashes anything: it is a label: what it is worth is what the hold of that sum in a sandbox is worth. -/
noncomputable def Tryz.pinned : Pinned := { name := "ytkjnkkmokojnpaagreatdoor", sum := "3680321c8f9e10648bc47671af4f367f68fb3e565511162a508e6d833813513c", checked := Tryz.checked }
namespace Rows
def none {H : Type} : Left H := { results := [], args := [] }

/- WHAT THE LISTED PACKAGE-LEVEL VARIABLES READ AS WHEN THE CALL BEGINS. Each datum BY PROGRAM (the guide's laid-datum.mjs) off the statement by which the dump's own 'gosem.cut.vars' lays the variable. In a bare row this is a premise. The card (YtkjnkkmokojnpaaGreatDoorCards.lean) ties it to the program's text. -/
def laid_errors_errorType {H : Type} : DataW H := .iface "internal/reflectlite.rtype" (.agg [.ptr (.lit (.string [101, 114, 114, 111, 114]))])
def laid_trammel_scan_keys {H : Type} : DataW H := .slice [.lit (.string [112, 114, 111, 99]), .lit (.string [114, 101, 113, 117, 105, 114, 101, 115]), .lit (.string [101, 110, 115, 117, 114, 101, 115]), .lit (.string [115, 107, 105, 112]), .lit (.string [112, 117, 116]), .lit (.string [103, 101, 116]), .lit (.string [110, 101, 119]), .lit (.string [102, 114, 101, 101]), .lit (.string [105, 102]), .lit (.string [101, 108, 115, 101]), .lit (.string [119, 104, 105, 108, 101]), .lit (.string [105, 110, 118, 97, 114, 105, 97, 110, 116]), .lit (.string [97, 115, 115, 101, 114, 116]), .lit (.string [99, 97, 108, 108]), .lit (.string [116, 114, 117, 101]), .lit (.string [102, 97, 108, 115, 101]), .lit (.string [101, 109, 112]), .lit (.string [97, 99, 99]), .lit (.string [112, 116, 115])] []
def laid_math_bits_deBruijn32tab {H : Type} : DataW H := .agg [.lit (.int .u8 0), .lit (.int .u8 1), .lit (.int .u8 28), .lit (.int .u8 2), .lit (.int .u8 29), .lit (.int .u8 14), .lit (.int .u8 24), .lit (.int .u8 3), .lit (.int .u8 30), .lit (.int .u8 22), .lit (.int .u8 20), .lit (.int .u8 15), .lit (.int .u8 25), .lit (.int .u8 17), .lit (.int .u8 4), .lit (.int .u8 8), .lit (.int .u8 31), .lit (.int .u8 27), .lit (.int .u8 13), .lit (.int .u8 23), .lit (.int .u8 21), .lit (.int .u8 19), .lit (.int .u8 16), .lit (.int .u8 7), .lit (.int .u8 26), .lit (.int .u8 12), .lit (.int .u8 18), .lit (.int .u8 6), .lit (.int .u8 11), .lit (.int .u8 5), .lit (.int .u8 10), .lit (.int .u8 9)]
def laid_math_bits_deBruijn64tab {H : Type} : DataW H := .agg [.lit (.int .u8 0), .lit (.int .u8 1), .lit (.int .u8 56), .lit (.int .u8 2), .lit (.int .u8 57), .lit (.int .u8 49), .lit (.int .u8 28), .lit (.int .u8 3), .lit (.int .u8 61), .lit (.int .u8 58), .lit (.int .u8 42), .lit (.int .u8 50), .lit (.int .u8 38), .lit (.int .u8 29), .lit (.int .u8 17), .lit (.int .u8 4), .lit (.int .u8 62), .lit (.int .u8 47), .lit (.int .u8 59), .lit (.int .u8 36), .lit (.int .u8 45), .lit (.int .u8 43), .lit (.int .u8 51), .lit (.int .u8 22), .lit (.int .u8 53), .lit (.int .u8 39), .lit (.int .u8 33), .lit (.int .u8 30), .lit (.int .u8 24), .lit (.int .u8 18), .lit (.int .u8 12), .lit (.int .u8 5), .lit (.int .u8 63), .lit (.int .u8 55), .lit (.int .u8 48), .lit (.int .u8 27), .lit (.int .u8 60), .lit (.int .u8 41), .lit (.int .u8 37), .lit (.int .u8 16), .lit (.int .u8 46), .lit (.int .u8 35), .lit (.int .u8 44), .lit (.int .u8 21), .lit (.int .u8 52), .lit (.int .u8 32), .lit (.int .u8 23), .lit (.int .u8 11), .lit (.int .u8 54), .lit (.int .u8 26), .lit (.int .u8 40), .lit (.int .u8 15), .lit (.int .u8 34), .lit (.int .u8 20), .lit (.int .u8 31), .lit (.int .u8 10), .lit (.int .u8 25), .lit (.int .u8 14), .lit (.int .u8 19), .lit (.int .u8 9), .lit (.int .u8 13), .lit (.int .u8 8), .lit (.int .u8 7), .lit (.int .u8 6)]
def laid_internal_strconv_uint64pow10 {H : Type} : DataW H := .agg [.lit (.int .u64 1), .lit (.int .u64 10), .lit (.int .u64 100), .lit (.int .u64 1000), .lit (.int .u64 10000), .lit (.int .u64 100000), .lit (.int .u64 1000000), .lit (.int .u64 10000000), .lit (.int .u64 100000000), .lit (.int .u64 1000000000), .lit (.int .u64 10000000000), .lit (.int .u64 100000000000), .lit (.int .u64 1000000000000), .lit (.int .u64 10000000000000), .lit (.int .u64 100000000000000), .lit (.int .u64 1000000000000000), .lit (.int .u64 10000000000000000), .lit (.int .u64 100000000000000000), .lit (.int .u64 1000000000000000000), .lit (.int .u64 10000000000000000000)]
def laid_trammel_scan_operations {H : Type} : DataW H := .slice [.lit (.string [58, 61]), .lit (.string [61, 61]), .lit (.string [33, 61]), .lit (.string [60, 61]), .lit (.string [38, 38]), .lit (.string [124, 124]), .lit (.string [40]), .lit (.string [41]), .lit (.string [123]), .lit (.string [125]), .lit (.string [91]), .lit (.string [93]), .lit (.string [44]), .lit (.string [59]), .lit (.string [46]), .lit (.string [43]), .lit (.string [45]), .lit (.string [42]), .lit (.string [60]), .lit (.string [33]), .lit (.string [38])] []

/-- 'trammellaw16.NamesCheck': WHATEVER THE INPUT: true; the input reads as it did. -/
def namesCheckSpec : ChangeSpec := { name := "namesCheck", fn := fun _ => fun
  | [d] => { results := [.lit (.bool true)], args := [d] }
  | _ => none }
def namesCheckRow : OpenClaim := { program := "ytkjnkkmokojnpaagreatdoor", sum := "3680321c8f9e10648bc47671af4f367f68fb3e565511162a508e6d833813513c", func := "trammel/trammellaw16.NamesCheck", spec := "namesCheck", inPlace := ["internal/bytealg.IndexByteString", "internal/reflectlite.ValueOf", "(internal/reflectlite.Value).Type", "(internal/reflectlite.Value).IsNil", "internal/reflectlite.TypeOf", "(internal/reflectlite.Value).Elem", "(internal/reflectlite.Value).Set"], unfollowed := true, recurses := true, named := ["trammel/scan.keys", "errors.errorType"], loops := true, apart := false, laid := [("errors.errorType", laid_errors_errorType), ("trammel/scan.keys", laid_trammel_scan_keys)] }
def NamesCheckSaid : Prop := namesCheckRow.holds Tryz.pinned (OpenSpec.ofChange namesCheckSpec)

/-- ITS FALSE NEIGHBOUR: 'it returns false'. Refute it at one input. -/
def namesCheckWrong : ChangeSpec := { name := "namesCheck", fn := fun _ => fun
  | [d] => { results := [.lit (.bool false)], args := [d] }
  | _ => none }
def NamesCheckWrongFalsely : Prop := namesCheckRow.holds Tryz.pinned (OpenSpec.ofChange namesCheckWrong)

/-- 'trammellaw16.NamesStays': WHATEVER THE INPUT: true; the input reads as it did. -/
def namesStaysSpec : ChangeSpec := { name := "namesStays", fn := fun _ => fun
  | [d] => { results := [.lit (.bool true)], args := [d] }
  | _ => none }
def namesStaysRow : OpenClaim := { program := "ytkjnkkmokojnpaagreatdoor", sum := "3680321c8f9e10648bc47671af4f367f68fb3e565511162a508e6d833813513c", func := "trammel/trammellaw16.NamesStays", spec := "namesStays", inPlace := ["internal/bytealg.IndexByteString", "internal/reflectlite.ValueOf", "(internal/reflectlite.Value).Type", "(internal/reflectlite.Value).IsNil", "internal/reflectlite.TypeOf", "(internal/reflectlite.Value).Elem", "(internal/reflectlite.Value).Set"], unfollowed := true, recurses := true, named := ["trammel/scan.keys", "errors.errorType"], loops := true, apart := false, laid := [("errors.errorType", laid_errors_errorType), ("trammel/scan.keys", laid_trammel_scan_keys)] }
def NamesStaysSaid : Prop := namesStaysRow.holds Tryz.pinned (OpenSpec.ofChange namesStaysSpec)

/-- ITS FALSE NEIGHBOUR: 'it returns false'. Refute it at one input. -/
def namesStaysWrong : ChangeSpec := { name := "namesStays", fn := fun _ => fun
  | [d] => { results := [.lit (.bool false)], args := [d] }
  | _ => none }
def NamesStaysWrongFalsely : Prop := namesStaysRow.holds Tryz.pinned (OpenSpec.ofChange namesStaysWrong)

/-- 'trammellaw15.ShowTexts': WHATEVER THE INPUT: true; the input reads as it did. -/
def showTextsSpec : ChangeSpec := { name := "showTexts", fn := fun _ => fun
  | [d] => { results := [.lit (.bool true)], args := [d] }
  | _ => none }
def showTextsRow : OpenClaim := { program := "ytkjnkkmokojnpaagreatdoor", sum := "3680321c8f9e10648bc47671af4f367f68fb3e565511162a508e6d833813513c", func := "trammel/trammellaw15.ShowTexts", spec := "showTexts", inPlace := ["internal/bytealg.IndexByteString", "internal/bytealg.IndexString", "internal/abi.NoEscape", "internal/bytealg.MakeNoZero"], unfollowed := true, recurses := true, named := ["internal/bytealg.MaxLen", "trammel/scan.operations", "trammel/scan.keys", "internal/strconv.uint64pow10", "math/bits.deBruijn32tab", "math/bits.deBruijn64tab"], loops := true, apart := false, laid := [("math/bits.deBruijn32tab", laid_math_bits_deBruijn32tab), ("math/bits.deBruijn64tab", laid_math_bits_deBruijn64tab), ("internal/strconv.uint64pow10", laid_internal_strconv_uint64pow10), ("trammel/scan.keys", laid_trammel_scan_keys), ("trammel/scan.operations", laid_trammel_scan_operations)] }
def ShowTextsSaid : Prop := showTextsRow.holds Tryz.pinned (OpenSpec.ofChange showTextsSpec)

/-- ITS FALSE NEIGHBOUR: 'it returns false'. Refute it at one input. -/
def showTextsWrong : ChangeSpec := { name := "showTexts", fn := fun _ => fun
  | [d] => { results := [.lit (.bool false)], args := [d] }
  | _ => none }
def ShowTextsWrongFalsely : Prop := showTextsRow.holds Tryz.pinned (OpenSpec.ofChange showTextsWrong)

/-- 'trammellaw15.ShowBack': WHATEVER THE INPUT: true; the input reads as it did. -/
def showBackSpec : ChangeSpec := { name := "showBack", fn := fun _ => fun
  | [d1, d2] => { results := [.lit (.bool true)], args := [d1, d2] }
  | _ => none }
def showBackRow : OpenClaim := { program := "ytkjnkkmokojnpaagreatdoor", sum := "3680321c8f9e10648bc47671af4f367f68fb3e565511162a508e6d833813513c", func := "trammel/trammellaw15.ShowBack", spec := "showBack", inPlace := ["internal/bytealg.IndexByteString", "internal/bytealg.IndexString", "internal/abi.NoEscape", "internal/bytealg.MakeNoZero"], unfollowed := true, recurses := true, named := ["internal/bytealg.MaxLen", "trammel/scan.operations", "trammel/scan.keys", "internal/strconv.uint64pow10", "math/bits.deBruijn32tab", "math/bits.deBruijn64tab"], loops := true, apart := false, laid := [("math/bits.deBruijn32tab", laid_math_bits_deBruijn32tab), ("math/bits.deBruijn64tab", laid_math_bits_deBruijn64tab), ("internal/strconv.uint64pow10", laid_internal_strconv_uint64pow10), ("trammel/scan.keys", laid_trammel_scan_keys), ("trammel/scan.operations", laid_trammel_scan_operations)] }
def ShowBackSaid : Prop := showBackRow.holds Tryz.pinned (OpenSpec.ofChange showBackSpec)

/-- ITS FALSE NEIGHBOUR: 'it returns false'. Refute it at one input. -/
def showBackWrong : ChangeSpec := { name := "showBack", fn := fun _ => fun
  | [d1, d2] => { results := [.lit (.bool false)], args := [d1, d2] }
  | _ => none }
def ShowBackWrongFalsely : Prop := showBackRow.holds Tryz.pinned (OpenSpec.ofChange showBackWrong)

/-- 'trammellaw15.ShowStays': WHATEVER THE INPUT: true; the input reads as it did. -/
def showStaysSpec : ChangeSpec := { name := "showStays", fn := fun _ => fun
  | [d] => { results := [.lit (.bool true)], args := [d] }
  | _ => none }
def showStaysRow : OpenClaim := { program := "ytkjnkkmokojnpaagreatdoor", sum := "3680321c8f9e10648bc47671af4f367f68fb3e565511162a508e6d833813513c", func := "trammel/trammellaw15.ShowStays", spec := "showStays", inPlace := ["internal/bytealg.IndexByteString", "internal/bytealg.IndexString", "internal/abi.NoEscape", "internal/bytealg.MakeNoZero"], unfollowed := true, recurses := true, named := ["internal/bytealg.MaxLen", "trammel/scan.operations", "trammel/scan.keys", "internal/strconv.uint64pow10", "math/bits.deBruijn32tab", "math/bits.deBruijn64tab"], loops := true, apart := false, laid := [("math/bits.deBruijn32tab", laid_math_bits_deBruijn32tab), ("math/bits.deBruijn64tab", laid_math_bits_deBruijn64tab), ("internal/strconv.uint64pow10", laid_internal_strconv_uint64pow10), ("trammel/scan.keys", laid_trammel_scan_keys), ("trammel/scan.operations", laid_trammel_scan_operations)] }
def ShowStaysSaid : Prop := showStaysRow.holds Tryz.pinned (OpenSpec.ofChange showStaysSpec)

/-- ITS FALSE NEIGHBOUR: 'it returns false'. Refute it at one input. -/
def showStaysWrong : ChangeSpec := { name := "showStays", fn := fun _ => fun
  | [d] => { results := [.lit (.bool false)], args := [d] }
  | _ => none }
def ShowStaysWrongFalsely : Prop := showStaysRow.holds Tryz.pinned (OpenSpec.ofChange showStaysWrong)

/- THE SECOND FORM. 'bulk': how many values and letters a reading holds, each counted each time it is reached (what is shared counts as often as it is met; a slice's spare places count too). A statement '..UptoSaid' is the law's where the arguments, and the package variables that the reading takes, are together of bulk at most 1048576: NARROWER than '..Said'. Prove '..Said' where nothing that the law and all that it calls make is longer than what came in: it says more and counts as full. Else prove '..UptoSaid'. A law counts once. -/
mutual
def uptoBulk {H : Type} : DataW H → Nat
  | .lit (.string bytes) => bytes.length + 1
  | .lit _ => 1
  | .nil => 1
  | .ptr d => uptoBulk d + 1
  | .slice elems spare => uptoBulkAll elems + uptoBulkAll spare + 1
  | .agg parts => uptoBulkAll parts + 1
  | .iface _ d => uptoBulk d + 1
  | .map entries => uptoBulkEntries entries + 1
  | .held _ => 1
def uptoBulkAll {H : Type} : List (DataW H) → Nat
  | [] => 0
  | d :: r => uptoBulk d + uptoBulkAll r
def uptoBulkEntries {H : Type} : List (Lit × DataW H) → Nat
  | [] => 0
  | x :: r => uptoBulkEntry x + uptoBulkEntries r
def uptoBulkEntry {H : Type} : Lit × DataW H → Nat
  | (.string bytes, d) => bytes.length + uptoBulk d + 1
  | (_, d) => uptoBulk d + 1
 end
def uptoSmall : (H : Type) → List (DataW H) → Bool := fun _ ds => decide (uptoBulkAll ds ≤ 1048576)
def OpenSpec.upto (s : _root_.Go.ChangeSpec) : _root_.Go.OpenSpec := { _root_.Go.OpenSpec.ofChange s with cond := some uptoSmall }

/-- 'trammellaw16.NamesCheck', WHERE WHAT IT READS IS OF BULK AT MOST 1048576: true; the input reads as it did. -/
def namesCheckUptoRow : OpenClaim := { program := "ytkjnkkmokojnpaagreatdoor", sum := "3680321c8f9e10648bc47671af4f367f68fb3e565511162a508e6d833813513c", func := "trammel/trammellaw16.NamesCheck", spec := "namesCheck", inPlace := ["internal/bytealg.IndexByteString", "internal/reflectlite.ValueOf", "(internal/reflectlite.Value).Type", "(internal/reflectlite.Value).IsNil", "internal/reflectlite.TypeOf", "(internal/reflectlite.Value).Elem", "(internal/reflectlite.Value).Set"], unfollowed := true, recurses := true, named := ["trammel/scan.keys", "errors.errorType"], loops := true, apart := false, laid := [("errors.errorType", laid_errors_errorType), ("trammel/scan.keys", laid_trammel_scan_keys)], narrowed := true }
def NamesCheckUptoSaid : Prop := namesCheckUptoRow.holds Tryz.pinned (OpenSpec.upto namesCheckSpec)

/-- 'trammellaw16.NamesStays', WHERE WHAT IT READS IS OF BULK AT MOST 1048576: true; the input reads as it did. -/
def namesStaysUptoRow : OpenClaim := { program := "ytkjnkkmokojnpaagreatdoor", sum := "3680321c8f9e10648bc47671af4f367f68fb3e565511162a508e6d833813513c", func := "trammel/trammellaw16.NamesStays", spec := "namesStays", inPlace := ["internal/bytealg.IndexByteString", "internal/reflectlite.ValueOf", "(internal/reflectlite.Value).Type", "(internal/reflectlite.Value).IsNil", "internal/reflectlite.TypeOf", "(internal/reflectlite.Value).Elem", "(internal/reflectlite.Value).Set"], unfollowed := true, recurses := true, named := ["trammel/scan.keys", "errors.errorType"], loops := true, apart := false, laid := [("errors.errorType", laid_errors_errorType), ("trammel/scan.keys", laid_trammel_scan_keys)], narrowed := true }
def NamesStaysUptoSaid : Prop := namesStaysUptoRow.holds Tryz.pinned (OpenSpec.upto namesStaysSpec)

/-- 'trammellaw15.ShowTexts', WHERE WHAT IT READS IS OF BULK AT MOST 1048576: true; the input reads as it did. -/
def showTextsUptoRow : OpenClaim := { program := "ytkjnkkmokojnpaagreatdoor", sum := "3680321c8f9e10648bc47671af4f367f68fb3e565511162a508e6d833813513c", func := "trammel/trammellaw15.ShowTexts", spec := "showTexts", inPlace := ["internal/bytealg.IndexByteString", "internal/bytealg.IndexString", "internal/abi.NoEscape", "internal/bytealg.MakeNoZero"], unfollowed := true, recurses := true, named := ["internal/bytealg.MaxLen", "trammel/scan.operations", "trammel/scan.keys", "internal/strconv.uint64pow10", "math/bits.deBruijn32tab", "math/bits.deBruijn64tab"], loops := true, apart := false, laid := [("math/bits.deBruijn32tab", laid_math_bits_deBruijn32tab), ("math/bits.deBruijn64tab", laid_math_bits_deBruijn64tab), ("internal/strconv.uint64pow10", laid_internal_strconv_uint64pow10), ("trammel/scan.keys", laid_trammel_scan_keys), ("trammel/scan.operations", laid_trammel_scan_operations)], narrowed := true }
def ShowTextsUptoSaid : Prop := showTextsUptoRow.holds Tryz.pinned (OpenSpec.upto showTextsSpec)

/-- 'trammellaw15.ShowBack', WHERE WHAT IT READS IS OF BULK AT MOST 1048576: true; the input reads as it did. -/
def showBackUptoRow : OpenClaim := { program := "ytkjnkkmokojnpaagreatdoor", sum := "3680321c8f9e10648bc47671af4f367f68fb3e565511162a508e6d833813513c", func := "trammel/trammellaw15.ShowBack", spec := "showBack", inPlace := ["internal/bytealg.IndexByteString", "internal/bytealg.IndexString", "internal/abi.NoEscape", "internal/bytealg.MakeNoZero"], unfollowed := true, recurses := true, named := ["internal/bytealg.MaxLen", "trammel/scan.operations", "trammel/scan.keys", "internal/strconv.uint64pow10", "math/bits.deBruijn32tab", "math/bits.deBruijn64tab"], loops := true, apart := false, laid := [("math/bits.deBruijn32tab", laid_math_bits_deBruijn32tab), ("math/bits.deBruijn64tab", laid_math_bits_deBruijn64tab), ("internal/strconv.uint64pow10", laid_internal_strconv_uint64pow10), ("trammel/scan.keys", laid_trammel_scan_keys), ("trammel/scan.operations", laid_trammel_scan_operations)], narrowed := true }
def ShowBackUptoSaid : Prop := showBackUptoRow.holds Tryz.pinned (OpenSpec.upto showBackSpec)

/-- 'trammellaw15.ShowStays', WHERE WHAT IT READS IS OF BULK AT MOST 1048576: true; the input reads as it did. -/
def showStaysUptoRow : OpenClaim := { program := "ytkjnkkmokojnpaagreatdoor", sum := "3680321c8f9e10648bc47671af4f367f68fb3e565511162a508e6d833813513c", func := "trammel/trammellaw15.ShowStays", spec := "showStays", inPlace := ["internal/bytealg.IndexByteString", "internal/bytealg.IndexString", "internal/abi.NoEscape", "internal/bytealg.MakeNoZero"], unfollowed := true, recurses := true, named := ["internal/bytealg.MaxLen", "trammel/scan.operations", "trammel/scan.keys", "internal/strconv.uint64pow10", "math/bits.deBruijn32tab", "math/bits.deBruijn64tab"], loops := true, apart := false, laid := [("math/bits.deBruijn32tab", laid_math_bits_deBruijn32tab), ("math/bits.deBruijn64tab", laid_math_bits_deBruijn64tab), ("internal/strconv.uint64pow10", laid_internal_strconv_uint64pow10), ("trammel/scan.keys", laid_trammel_scan_keys), ("trammel/scan.operations", laid_trammel_scan_operations)], narrowed := true }
def ShowStaysUptoSaid : Prop := showStaysUptoRow.holds Tryz.pinned (OpenSpec.upto showStaysSpec)

end Rows
end Go.Proofs.YtkjnkkmokojnpaaGreatDoor
