/- Witnesses, and their bytes, in plain numbers. -/
import Derived.Test.YtfalmbbcdagbiaaBits
namespace Go.Proofs.Ytfalmbbcdagbiaa
set_option linter.unusedSimpArgs false
set_option linter.unusedVariables false
open Go.RowKit

def Is64 (n : Int) : Prop := -9223372036854775808 ≤ n ∧ n ≤ 9223372036854775807
structure StepD where
  P : List (Int × Int)
  D : Int
structure LemmaD where
  L : List Int
  S : List StepD
structure ReplyD where
  Y : Bool
  M : List LemmaD
  R : List (List Int)
structure RecordD where
  N : ByteArray
  A : List ReplyD


/-- Several: how many, and each. -/
def several {α : Type} (f : α → List Nat) (l : List α) : List Nat := num l.length ++ l.flatMap f
def clauseB (c : List Int) : List Nat := several num c
def partB (p : Int × Int) : List Nat := num p.1 ++ num p.2
def stepB (s : StepD) : List Nat := several partB s.P ++ num s.D
def lemmaB (m : LemmaD) : List Nat := clauseB m.L ++ several stepB m.S
def replyB (r : ReplyD) : List Nat := if r.Y then 1 :: (several lemmaB r.M ++ several clauseB r.R) else [0]
def recordB (r : RecordD) : List Nat := num r.N.size ++ r.N.data.toList.map (·.toNat) ++ several replyB r.A
def witnessB (w : List RecordD) : List Nat := several recordB w

theorem take_fm {α : Type} {f : α → List Nat} {l : List α} {k : Nat} (h : k < l.length) : (l.take (k + 1)).flatMap f = (l.take k).flatMap f ++ f l[k] := by
  rw [List.take_succ_eq_append_getElem h, List.flatMap_append]; simp
theorem fm_le {α : Type} {f : α → List Nat} {l : List α} {k : Nat} (h : k < l.length) : ((l.take k).flatMap f).length + (f l[k]).length ≤ (l.flatMap f).length := by
  have e : l.flatMap f = (l.take (k + 1)).flatMap f ++ (l.drop (k + 1)).flatMap f := by rw [← List.flatMap_append, List.take_append_drop]
  rw [e, take_fm h]; simp only [List.length_append]; omega
end Go.Proofs.Ytfalmbbcdagbiaa
