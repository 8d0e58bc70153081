/- Witnesses, and their bytes, in plain numbers. -/
import Derived.Test.YtjgfhblciapkfaaBits
namespace Go.Proofs.Ytjgfhblciapkfaa
set_option linter.unusedSimpArgs false
set_option linter.unusedVariables false
open Go.RowKit

def Is64 (n : Int) : Prop := -9223372036854775808 ≤ n ∧ n ≤ 9223372036854775807
structure StepD where
  P : List (Int × Int)
  D : Int
structure LemmaD where
  L : List Int
  S : List StepD
structure ReplyD where
  Y : Bool
  M : List LemmaD
  R : List (List Int)
structure RecordD where
  N : ByteArray
  A : List ReplyD


/-- Several: how many, and each. -/
def several {α : Type} (f : α → List Nat) (l : List α) : List Nat := num l.length ++ l.flatMap f
def clauseB (c : List Int) : List Nat := several num c
def partB (p : Int × Int) : List Nat := num p.1 ++ num p.2
def stepB (s : StepD) : List Nat := several partB s.P ++ num s.D
def lemmaB (m : LemmaD) : List Nat := clauseB m.L ++ several stepB m.S
def replyB (r : ReplyD) : List Nat := if r.Y then 1 :: (several lemmaB r.M ++ several clauseB r.R) else [0]
def recordB (r : RecordD) : List Nat := num r.N.size ++ r.N.data.toList.map (·.toNat) ++ several replyB r.A
def witnessB (w : List RecordD) : List Nat := several recordB w

end Go.Proofs.Ytjgfhblciapkfaa
