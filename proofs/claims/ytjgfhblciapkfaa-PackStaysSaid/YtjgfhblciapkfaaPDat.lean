/- Witnesses as K's trees. -/
import Derived.Test.YtjgfhblciapkfaaPNum
import Derived.Test.YtjgfhblciapkfaaFm
import Derived.Test.YtjgfhblciapkfaaPackD
namespace Go.Proofs.Ytjgfhblciapkfaa
set_option linter.unusedSimpArgs false
set_option linter.unusedVariables false
open Go.RowKit

abbrev intA (z : Int) : AV := .c (.int .i64 z)
abbrev intsA (c : List Int) : AV := .sl (c.map intA) c.length .none
abbrev partA (p : Int × Int) : List AV := [intA p.1, intA p.2]
abbrev stepA (s : StepD) : List AV := [.sl (s.P.flatMap partA) s.P.length .none, intA s.D]
abbrev stepsA (l : List StepD) : AV := .sl (l.flatMap stepA) l.length .none
abbrev lemmaA (m : LemmaD) : List AV := [intsA m.L, stepsA m.S]
abbrev replyA (r : ReplyD) : List AV := [.c (.bool r.Y), .sl (r.M.flatMap lemmaA) r.M.length .none, .sl (r.R.map intsA) r.R.length .none]
abbrev recordA (r : RecordD) : List AV := [.c (.string r.N), .sl (r.A.flatMap replyA) r.A.length .none]
abbrev recordsA (w : List RecordD) : AV := .sl (w.flatMap recordA) w.length .none

attribute [go_sem] intA intsA partA stepA stepsA lemmaA replyA recordA recordsA
/-! What must hold of numbers and lengths. -/
def OkLen {α : Type} (l : List α) : Prop := l.length ≤ 140737488355232
def OkInts (c : List Int) : Prop := OkLen c ∧ ∀ z ∈ c, Is64 z
def OkPart (p : Int × Int) : Prop := Is64 p.1 ∧ Is64 p.2
def OkStep (s : StepD) : Prop := OkLen s.P ∧ (∀ p ∈ s.P, OkPart p) ∧ Is64 s.D
def OkSteps (l : List StepD) : Prop := OkLen l ∧ ∀ s ∈ l, OkStep s
def OkLemma (m : LemmaD) : Prop := OkInts m.L ∧ OkSteps m.S
def OkReply (r : ReplyD) : Prop := (OkLen r.M ∧ ∀ m ∈ r.M, OkLemma m) ∧ OkLen r.R ∧ ∀ c ∈ r.R, OkInts c
def OkRecord (r : RecordD) : Prop := r.N.size ≤ 140737488355232 ∧ OkLen r.A ∧ ∀ x ∈ r.A, OkReply x
end Go.Proofs.Ytjgfhblciapkfaa
