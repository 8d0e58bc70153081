/- Witnesses, read as arguments. -/
import Derived.Test.YtjgfhblciapkfaaPDat
import Derived.Test.YtjgfhblciapkfaaKR
namespace Go.Proofs.Ytjgfhblciapkfaa
set_option linter.unusedSimpArgs false
set_option linter.unusedVariables false
open Go.RowKit Go.ChangeShapes Go.WideShapes
instance : Inhabited StepD := ⟨⟨[], 0⟩⟩
instance : Inhabited LemmaD := ⟨⟨[], []⟩⟩
instance : Inhabited ReplyD := ⟨⟨false, [], []⟩⟩
instance : Inhabited RecordD := ⟨⟨⟨#[]⟩, []⟩⟩
section
variable {H : Type} {enc : TypeId × Value → H} {w : World} {base : Nat} {spare : Nat → Bool} {held : Bool}
theorem len_le {α : Type} {l : List α} {b : Nat} (hb : 0 < b) (h : l.length * b ≤ 140737488351232) : OkLen l := by
  have := Nat.le_mul_of_pos_right l.length hb
  unfold OkLen; omega
theorem rd_int (fuel : Nat) : Reads enc Try.prog w base spare held 3 (fun z : Int => [intA z]) Is64 fuel := reads_i64 Try.underlying3 fuel
theorem rd_ints (fuel : Nat) : Reads enc Try.prog w base spare held 58 (fun c : List Int => [intsA c]) OkInts fuel :=
  (reads_slice Try.underlying58 (s := 1) (by kernel_rfl) (of_decide_eq_true (by kernel_rfl)) (by decide) (fun _ => rfl) fun n _ => rd_int n).map id (fun l => by rw [← fm_one intA l]; rfl) fun l h => ⟨len_le (of_decide_eq_true (by kernel_rfl)) h.2, h.1⟩
theorem rd_part (fuel : Nat) : Reads enc Try.prog w base spare held 75 partA OkPart fuel :=
  (reads_struct2 Try.underlying75 rfl (n0 := 1) (by kernel_rfl) rfl (n1 := 1) (by kernel_rfl) (by kernel_rfl) (fun n _ => rd_int n) (fun n _ => rd_int n)).map id (fun _ => rfl) fun _ h => h
theorem rd_step (fuel : Nat) : Reads enc Try.prog w base spare held 64 stepA OkStep fuel :=
  (reads_struct2 Try.underlying64 rfl (n0 := 1) (by kernel_rfl) rfl (n1 := 1) (by kernel_rfl) (by kernel_rfl)
    (fun n _ => reads_slice Try.underlying62 (s := 2) (by kernel_rfl) (of_decide_eq_true (by kernel_rfl)) (by decide) (fun _ => rfl) fun n _ => rd_part n) (fun n _ => rd_int n)).map (fun p => (⟨p.1, p.2⟩ : StepD)) (fun _ => rfl)
    fun _ h => ⟨len_le (of_decide_eq_true (by kernel_rfl)) h.1.2, h.1.1, h.2⟩
theorem rd_steps (fuel : Nat) : Reads enc Try.prog w base spare held 59 (fun l => [stepsA l]) OkSteps fuel :=
  (reads_slice Try.underlying59 (s := 2) (by kernel_rfl) (of_decide_eq_true (by kernel_rfl)) (by decide) (fun _ => rfl) fun n _ => rd_step n).map id (fun _ => rfl) fun _ h => ⟨len_le (of_decide_eq_true (by kernel_rfl)) h.2, h.1⟩
theorem rd_lemma (fuel : Nat) : Reads enc Try.prog w base spare held 61 lemmaA OkLemma fuel :=
  (reads_struct2 Try.underlying61 rfl (n0 := 1) (by kernel_rfl) rfl (n1 := 1) (by kernel_rfl) (by kernel_rfl) (fun n _ => rd_ints n) (fun n _ => rd_steps n)).map (fun p => (⟨p.1, p.2⟩ : LemmaD)) (fun _ => rfl) fun _ h => h
theorem rd_cert (fuel : Nat) : Reads enc Try.prog w base spare held 41 (fun p : List LemmaD × List (List Int) => [.sl (p.1.flatMap lemmaA) p.1.length .none, .sl (p.2.map intsA) p.2.length .none]) (fun p => (OkLen p.1 ∧ ∀ m ∈ p.1, OkLemma m) ∧ OkLen p.2 ∧ ∀ c ∈ p.2, OkInts c) fuel :=
  (reads_struct2 Try.underlying41 rfl (n0 := 1) (by kernel_rfl) rfl (n1 := 1) (by kernel_rfl) (by kernel_rfl)
    (fun n _ => reads_slice Try.underlying38 (s := 2) (by kernel_rfl) (of_decide_eq_true (by kernel_rfl)) (by decide) (fun _ => rfl) fun n _ => rd_lemma n)
    (fun n _ => reads_slice Try.underlying39 (s := 1) (by kernel_rfl) (of_decide_eq_true (by kernel_rfl)) (by decide) (fun _ => rfl) fun n _ => rd_ints n)).map id (fun p => by rw [← fm_one intsA p.2]; rfl)
    fun _ h => ⟨⟨len_le (of_decide_eq_true (by kernel_rfl)) h.1.2, h.1.1⟩, len_le (of_decide_eq_true (by kernel_rfl)) h.2.2, h.2.1⟩
theorem rd_bool (fuel : Nat) : Reads enc Try.prog w base spare held 4 (fun b : Bool => [.c (.bool b)]) (fun _ => True) fuel := reads_bool Try.underlying4 fuel
theorem rd_reply (fuel : Nat) : Reads enc Try.prog w base spare held 43 replyA OkReply fuel :=
  (reads_struct2 Try.underlying43 rfl (n0 := 1) (by kernel_rfl) rfl (n1 := 2) (by kernel_rfl) (by kernel_rfl) (fun n _ => rd_bool n) (fun n _ => rd_cert n)).map (fun p => (⟨p.1, p.2.1, p.2.2⟩ : ReplyD)) (fun _ => rfl) fun _ h => h.2
theorem rd_record (fuel : Nat) : Reads enc Try.prog w base spare held 46 recordA OkRecord fuel :=
  (reads_struct2 Try.underlying46 rfl (n0 := 1) (by kernel_rfl) rfl (n1 := 1) (by kernel_rfl) (by kernel_rfl) (fun n _ => reads_string Try.underlying9 n)
    (fun n _ => reads_slice Try.underlying44 (s := 3) (by kernel_rfl) (of_decide_eq_true (by kernel_rfl)) (by decide) (fun _ => rfl) fun n _ => rd_reply n)).map (fun p => (⟨p.1, p.2⟩ : RecordD)) (fun _ => rfl)
    fun _ h => ⟨Nat.le_trans h.1 (by decide), len_le (of_decide_eq_true (by kernel_rfl)) h.2.2, h.2.1⟩
def OkWitness (l : List RecordD) : Prop := OkLen l ∧ ∀ r ∈ l, OkRecord r
theorem rd_witness (fuel : Nat) : Reads enc Try.prog w base spare held 25 (fun l => [recordsA l]) OkWitness fuel :=
  (reads_struct1 Try.underlying25 rfl (by kernel_rfl) fun n _ =>
    reads_slice Try.underlying23 (s := 2) (by kernel_rfl) (of_decide_eq_true (by kernel_rfl)) (by decide) (fun _ => rfl) fun n _ => rd_record n).map id (fun _ => rfl) fun _ h => ⟨len_le (of_decide_eq_true (by kernel_rfl)) h.2, h.1⟩
theorem rd_bytes (fuel : Nat) : Reads enc Try.prog w base spare held 22 (fun l : List Nat => [.sl (l.map byteN) l.length .none]) (fun l => (∀ b ∈ l, b < 256) ∧ l.length ≤ 140737488351232) fuel :=
  (reads_slice Try.underlying22 (s := 1) (by kernel_rfl) (of_decide_eq_true (by kernel_rfl)) (by decide) (fun _ => rfl) fun n _ => reads_u8 Try.underlying5 n).map id (fun l => by rw [← fm_one (fun b : Nat => .c (.int .u8 (b : Int))) l]; rfl)
    fun _ h => ⟨h.1, by have := h.2; rw [show Try.prog.bytesOf 5 = 1 by kernel_rfl, Nat.mul_one] at this; exact this⟩
end
theorem gl_none {W : World} : Gl (Ztot W) := fun g cs hg => by cases hg
end Go.Proofs.Ytjgfhblciapkfaa
