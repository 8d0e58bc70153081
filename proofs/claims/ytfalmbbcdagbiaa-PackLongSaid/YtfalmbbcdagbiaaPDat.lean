/- Witnesses as K's trees. -/
import Derived.Test.YtfalmbbcdagbiaaPNum
import Derived.Test.YtfalmbbcdagbiaaKW
import Derived.Test.YtfalmbbcdagbiaaPackD
namespace Go.Proofs.Ytfalmbbcdagbiaa
set_option linter.unusedSimpArgs false
set_option linter.unusedVariables false
open Go.RowKit

abbrev intA (z : Int) : AV := .c (.int .i64 z)
abbrev intsA (c : List Int) : AV := .sl (c.map intA) c.length .none
abbrev partA (p : Int × Int) : List AV := [intA p.1, intA p.2]
abbrev stepA (s : StepD) : List AV := [.sl (s.P.flatMap partA) s.P.length .none, intA s.D]
abbrev stepsA (l : List StepD) : AV := .sl (l.flatMap stepA) l.length .none
abbrev lemmaA (m : LemmaD) : List AV := [intsA m.L, stepsA m.S]
abbrev replyA (r : ReplyD) : List AV := [.c (.bool r.Y), .sl (r.M.flatMap lemmaA) r.M.length .none, .sl (r.R.map intsA) r.R.length .none]
abbrev recordA (r : RecordD) : List AV := [.c (.string r.N), .sl (r.A.flatMap replyA) r.A.length .none]
abbrev recordsA (w : List RecordD) : AV := .sl (w.flatMap recordA) w.length .none

attribute [go_sem] intA intsA partA stepA stepsA lemmaA replyA recordA recordsA
theorem fm_len {α : Type} {f : α → List AV} {k : Nat} (hf : ∀ x, (f x).length = k) : ∀ l : List α, (l.flatMap f).length = l.length * k
  | [] => by simp
  | x :: l => by rw [List.flatMap_cons, List.length_append, hf, fm_len hf l, List.length_cons, Nat.succ_mul]; omega
theorem fm_at {α : Type} {f : α → List AV} {k : Nat} (hf : ∀ x, (f x).length = k) : ∀ {l : List α} {i : Nat} (h : i < l.length), ((l.flatMap f).drop (i * k)).take k = f l[i]
  | x :: l, 0, _ => by
    rw [Nat.zero_mul, List.drop_zero, List.flatMap_cons, List.take_append_of_le_length (by rw [hf]; exact Nat.le_refl _), List.take_of_length_le (by rw [hf]; exact Nat.le_refl _)]; rfl
  | x :: l, i + 1, h => by
    have := fm_at hf (l := l) (i := i) (by simpa using h)
    rw [List.flatMap_cons, List.drop_append]
    have e : (i + 1) * k - (f x).length = i * k := by rw [hf, Nat.succ_mul]; omega
    rw [e, List.drop_of_length_le (by rw [hf, Nat.succ_mul]; omega), List.nil_append, this]; rfl
theorem fm_get {α : Type} {f : α → List AV} {k : Nat} (hf : ∀ x, (f x).length = k) {l : List α} {i : Nat} (h : i < l.length) (j : Nat) (hj : j < k) : (l.flatMap f).getD (i * k + j) .u = (f l[i]).getD j .u := by
  have e := congrArg (fun x => x.getD j .u) (fm_at hf h)
  simp only [List.getD_eq_getElem?_getD] at e ⊢
  rw [← e, List.getElem?_take, if_pos hj, List.getElem?_drop]
theorem fm_get0 {α : Type} {f : α → List AV} {k : Nat} (hf : ∀ x, (f x).length = k) {l : List α} {i : Nat} (h : i < l.length) (hj : 0 < k) : (l.flatMap f).getD (i * k) .u = (f l[i]).getD 0 .u := fm_get hf h 0 hj
theorem map_at {α : Type} {f : α → AV} {l : List α} {i : Nat} (h : i < l.length) : (l.map f).getD i .u = f l[i] := by
  rw [List.getD_eq_getElem?_getD, List.getElem?_map, List.getElem?_eq_getElem h]; rfl
/-! What must hold of numbers and lengths. -/
def OkLen {α : Type} (l : List α) : Prop := l.length ≤ 140737488355232
def OkInts (c : List Int) : Prop := OkLen c ∧ ∀ z ∈ c, Is64 z
def OkPart (p : Int × Int) : Prop := Is64 p.1 ∧ Is64 p.2
def OkStep (s : StepD) : Prop := OkLen s.P ∧ (∀ p ∈ s.P, OkPart p) ∧ Is64 s.D
def OkSteps (l : List StepD) : Prop := OkLen l ∧ ∀ s ∈ l, OkStep s
def OkLemma (m : LemmaD) : Prop := OkInts m.L ∧ OkSteps m.S
def OkReply (r : ReplyD) : Prop := (OkLen r.M ∧ ∀ m ∈ r.M, OkLemma m) ∧ OkLen r.R ∧ ∀ c ∈ r.R, OkInts c
def OkRecord (r : RecordD) : Prop := r.N.size ≤ 140737488355232 ∧ OkLen r.A ∧ ∀ x ∈ r.A, OkReply x
end Go.Proofs.Ytfalmbbcdagbiaa
