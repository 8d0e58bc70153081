/- Witnesses, read as arguments. -/
import Derived.Test.YtfalmbbcdagbiaaPDat
import Derived.Test.YtfalmbbcdagbiaaKR
namespace Go.Proofs.Ytfalmbbcdagbiaa
set_option linter.unusedSimpArgs false
set_option linter.unusedVariables false
open Go.RowKit Go.ChangeShapes Go.WideShapes
instance : Inhabited StepD := ⟨⟨[], 0⟩⟩
instance : Inhabited LemmaD := ⟨⟨[], []⟩⟩
instance : Inhabited ReplyD := ⟨⟨false, [], []⟩⟩
instance : Inhabited RecordD := ⟨⟨⟨#[]⟩, []⟩⟩
section
variable {H : Type} {enc : TypeId × Value → H} {w : World} {base : Nat} {spare : Nat → Bool} {held : Bool}
theorem len_le {α : Type} {l : List α} {b : Nat} (hb : 0 < b) (h : l.length * b ≤ 140737488351232) : OkLen l := by
  have := Nat.le_mul_of_pos_right l.length hb
  unfold OkLen; omega
theorem fm_one {α : Type} (f : α → AV) : ∀ l : List α, l.map f = l.flatMap fun z => [f z]
  | [] => rfl
  | x :: l => by rw [List.map_cons, List.flatMap_cons, ← fm_one f l]; rfl
theorem rd_int (fuel : Nat) : Reads enc Try.prog w base spare held 3 (fun z : Int => [intA z]) Is64 fuel := reads_i64 Try.underlying3 fuel
theorem rd_ints (fuel : Nat) : Reads enc Try.prog w base spare held 65 (fun c : List Int => [intsA c]) OkInts fuel :=
  (reads_slice Try.underlying65 (s := 1) (by kernel_rfl) (of_decide_eq_true (by kernel_rfl)) (by decide) (fun _ => rfl) fun n _ => rd_int n).map id (fun l => by rw [← fm_one intA l]; rfl) fun l h => ⟨len_le (of_decide_eq_true (by kernel_rfl)) h.2, h.1⟩
theorem rd_part (fuel : Nat) : Reads enc Try.prog w base spare held 82 partA OkPart fuel :=
  (reads_struct2 Try.underlying82 rfl (n0 := 1) (by kernel_rfl) rfl (n1 := 1) (by kernel_rfl) (by kernel_rfl) (fun n _ => rd_int n) (fun n _ => rd_int n)).map id (fun _ => rfl) fun _ h => h
theorem rd_step (fuel : Nat) : Reads enc Try.prog w base spare held 71 stepA OkStep fuel :=
  (reads_struct2 Try.underlying71 rfl (n0 := 1) (by kernel_rfl) rfl (n1 := 1) (by kernel_rfl) (by kernel_rfl)
    (fun n _ => reads_slice Try.underlying69 (s := 2) (by kernel_rfl) (of_decide_eq_true (by kernel_rfl)) (by decide) (fun _ => rfl) fun n _ => rd_part n) (fun n _ => rd_int n)).map (fun p => (⟨p.1, p.2⟩ : StepD)) (fun _ => rfl)
    fun _ h => ⟨len_le (of_decide_eq_true (by kernel_rfl)) h.1.2, h.1.1, h.2⟩
theorem rd_steps (fuel : Nat) : Reads enc Try.prog w base spare held 66 (fun l => [stepsA l]) OkSteps fuel :=
  (reads_slice Try.underlying66 (s := 2) (by kernel_rfl) (of_decide_eq_true (by kernel_rfl)) (by decide) (fun _ => rfl) fun n _ => rd_step n).map id (fun _ => rfl) fun _ h => ⟨len_le (of_decide_eq_true (by kernel_rfl)) h.2, h.1⟩
theorem rd_lemma (fuel : Nat) : Reads enc Try.prog w base spare held 68 lemmaA OkLemma fuel :=
  (reads_struct2 Try.underlying68 rfl (n0 := 1) (by kernel_rfl) rfl (n1 := 1) (by kernel_rfl) (by kernel_rfl) (fun n _ => rd_ints n) (fun n _ => rd_steps n)).map (fun p => (⟨p.1, p.2⟩ : LemmaD)) (fun _ => rfl) fun _ h => h
theorem rd_cert (fuel : Nat) : Reads enc Try.prog w base spare held 48 (fun p : List LemmaD × List (List Int) => [.sl (p.1.flatMap lemmaA) p.1.length .none, .sl (p.2.map intsA) p.2.length .none]) (fun p => (OkLen p.1 ∧ ∀ m ∈ p.1, OkLemma m) ∧ OkLen p.2 ∧ ∀ c ∈ p.2, OkInts c) fuel :=
  (reads_struct2 Try.underlying48 rfl (n0 := 1) (by kernel_rfl) rfl (n1 := 1) (by kernel_rfl) (by kernel_rfl)
    (fun n _ => reads_slice Try.underlying45 (s := 2) (by kernel_rfl) (of_decide_eq_true (by kernel_rfl)) (by decide) (fun _ => rfl) fun n _ => rd_lemma n)
    (fun n _ => reads_slice Try.underlying46 (s := 1) (by kernel_rfl) (of_decide_eq_true (by kernel_rfl)) (by decide) (fun _ => rfl) fun n _ => rd_ints n)).map id (fun p => by rw [← fm_one intsA p.2]; rfl)
    fun _ h => ⟨⟨len_le (of_decide_eq_true (by kernel_rfl)) h.1.2, h.1.1⟩, len_le (of_decide_eq_true (by kernel_rfl)) h.2.2, h.2.1⟩
theorem rd_bool (fuel : Nat) : Reads enc Try.prog w base spare held 4 (fun b : Bool => [.c (.bool b)]) (fun _ => True) fuel := reads_bool Try.underlying4 fuel
theorem rd_reply (fuel : Nat) : Reads enc Try.prog w base spare held 50 replyA OkReply fuel :=
  (reads_struct2 Try.underlying50 rfl (n0 := 1) (by kernel_rfl) rfl (n1 := 2) (by kernel_rfl) (by kernel_rfl) (fun n _ => rd_bool n) (fun n _ => rd_cert n)).map (fun p => (⟨p.1, p.2.1, p.2.2⟩ : ReplyD)) (fun _ => rfl) fun _ h => h.2
theorem rd_record (fuel : Nat) : Reads enc Try.prog w base spare held 37 recordA OkRecord fuel :=
  (reads_struct2 Try.underlying37 rfl (n0 := 1) (by kernel_rfl) rfl (n1 := 1) (by kernel_rfl) (by kernel_rfl) (fun n _ => reads_string Try.underlying9 n)
    (fun n _ => reads_slice Try.underlying35 (s := 3) (by kernel_rfl) (of_decide_eq_true (by kernel_rfl)) (by decide) (fun _ => rfl) fun n _ => rd_reply n)).map (fun p => (⟨p.1, p.2⟩ : RecordD)) (fun _ => rfl)
    fun _ h => ⟨Nat.le_trans h.1 (by decide), len_le (of_decide_eq_true (by kernel_rfl)) h.2.2, h.2.1⟩
def OkWitness (l : List RecordD) : Prop := OkLen l ∧ ∀ r ∈ l, OkRecord r
theorem rd_witness (fuel : Nat) : Reads enc Try.prog w base spare held 24 (fun l => [recordsA l]) OkWitness fuel :=
  (reads_struct1 Try.underlying24 rfl (by kernel_rfl) fun n _ =>
    reads_slice Try.underlying22 (s := 2) (by kernel_rfl) (of_decide_eq_true (by kernel_rfl)) (by decide) (fun _ => rfl) fun n _ => rd_record n).map id (fun _ => rfl) fun _ h => ⟨len_le (of_decide_eq_true (by kernel_rfl)) h.2, h.1⟩
theorem rd_bytes (fuel : Nat) : Reads enc Try.prog w base spare held 27 (fun l : List Nat => [.sl (l.map byteN) l.length .none]) (fun l => (∀ b ∈ l, b < 256) ∧ l.length ≤ 140737488351232) fuel :=
  (reads_slice Try.underlying27 (s := 1) (by kernel_rfl) (of_decide_eq_true (by kernel_rfl)) (by decide) (fun _ => rfl) fun n _ => reads_u8 Try.underlying5 n).map id (fun l => by rw [← fm_one (fun b : Nat => .c (.int .u8 (b : Int))) l]; rfl)
    fun _ h => ⟨h.1, by have := h.2; rw [show Try.prog.bytesOf 5 = 1 by kernel_rfl, Nat.mul_one] at this; exact this⟩
end
end Go.Proofs.Ytfalmbbcdagbiaa
