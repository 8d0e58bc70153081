/- The document's examples, at the head of all statements of layer 2. -/
import Derived.Test.YtdieipdbkpcgmaaRefD
import Derived.Test.YtdieipdbkpcgmaaFormG
namespace Go.Proofs.Ytdieipdbkpcgmaa
set_option linter.unusedSimpArgs false
set_option linter.unusedVariables false
open Go.RowKit

theorem sliceOf_nil {α : Type} (w : World) (s : Nat) (R : α → List Value → Prop) : SliceOf w s R (.slice none 0 0) [] :=
  ⟨none, 0, rfl, by simp, ⟨by simp, fun _ => rfl⟩, fun i h => by simp at h⟩
theorem sliceOf_one {α : Type} {w : World} {s : Nat} {R : α → List Value → Prop} {b : Nat} {x : α} {cs : List Value} (hb : Old w b) (hR : R x cs) (hs : cs.length = s) (hc : ∀ j (h : j < cs.length), w.cell? ⟨b, j, none⟩ = some cs[j]) :
    SliceOf w s R (.slice (some ⟨b, 0, none⟩) 1 1) [x] :=
  ⟨_, 1, rfl, by simp, ⟨by simp, by simp⟩, fun i h => by
    obtain rfl : i = 0 := by simpa using h
    exact ⟨b, 0, cs, rfl, hb, hR, hs, fun j hj => by simpa using hc j hj⟩⟩

def up1 : Form := ⟨2, ⟨-3, [⟨0, 1⟩]⟩, []⟩
def up2 : Form := ⟨6, ⟨0, []⟩, []⟩
def up3 : Form := ⟨4, ⟨0, []⟩, []⟩
theorem up1_is : fvB up1 [3] = true ∧ fvErr up1 [3] = 0 := by decide +kernel
theorem up2_is : fvB up2 [] = false ∧ fvErr up2 [] = 0 := by decide +kernel
theorem up3_is : formErr up3 = 5 := by decide +kernel

theorem up1_form {W : World} {b : Nat} (hb : Old W b) (h0 : W.cell? ⟨b, 0, none⟩ = some (.int .i64 0)) (h1 : W.cell? ⟨b, 1, none⟩ = some (.int .i64 1)) :
    IsForm W 1 up1 [.int .i64 2, .int .i64 (-3), .slice (some ⟨b, 0, none⟩) 1 1, .slice none 0 0] :=
  ⟨by unfold I64 up1; decide, _, _, rfl, ⟨by unfold I64 up1; decide, sliceOf_one (cs := [.int .i64 0, .int .i64 1]) hb ⟨rfl, by unfold I64; decide, by unfold I64; decide⟩ rfl (fun j hj => by
    match j, hj with
    | 0, _ => exact h0
    | 1, _ => exact h1)⟩, sliceOf_nil _ _ _⟩
theorem up2_form {W : World} : IsForm W 1 up2 [.int .i64 6, .int .i64 0, .slice none 0 0, .slice none 0 0] :=
  ⟨by unfold I64 up2; decide, _, _, rfl, ⟨by unfold I64 up2; decide, sliceOf_nil _ _ _⟩, sliceOf_nil _ _ _⟩
theorem up3_form {W : World} : IsForm W 1 up3 [.int .i64 4, .int .i64 0, .slice none 0 0, .slice none 0 0] :=
  ⟨by unfold I64 up3; decide, _, _, rfl, ⟨by unfold I64 up3; decide, sliceOf_nil _ _ _⟩, sliceOf_nil _ _ _⟩
theorem up1_val {W : World} {b : Nat} (hb : Old W b) (h0 : W.cell? ⟨b, 0, none⟩ = some (.int .i64 3)) : IsInts W (.slice (some ⟨b, 0, none⟩) 1 1) [3] :=
  sliceOf_one (cs := [.int .i64 3]) hb ⟨rfl, by unfold I64; decide⟩ rfl (fun j hj => by
    match j, hj with
    | 0, _ => exact h0)

theorem up1_call {W : World} {b b2 : Nat} (hb : Old W b) (h0 : W.cell? ⟨b, 0, none⟩ = some (.int .i64 0)) (h1 : W.cell? ⟨b, 1, none⟩ = some (.int .i64 1)) (hb2 : Old W b2) (h2 : W.cell? ⟨b2, 0, none⟩ = some (.int .i64 3)) :
    Calls Try.prog 12 #[.agg #[.int .i64 2, .int .i64 (-3), .slice (some ⟨b, 0, none⟩) 1 1, .slice none 0 0], .slice (some ⟨b2, 0, none⟩) 1 1] W fun e w' => e = .returned (.tuple #[.bool true, .nilIface]) ∧ ∃ x, w' = ext W x :=
  (formValue_any (up1_form hb h0 h1) (up1_val hb2 h2)).mono fun e w' ⟨he, hx⟩ => ⟨by rw [he, up1_is.1, up1_is.2]; rfl, hx⟩
theorem up2_call {W : World} :
    Calls Try.prog 12 #[.agg #[.int .i64 6, .int .i64 0, .slice none 0 0, .slice none 0 0], .slice none 0 0] W fun e w' => e = .returned (.tuple #[.bool false, .nilIface]) ∧ ∃ x, w' = ext W x :=
  (formValue_any up2_form (sliceOf_nil _ _ _)).mono fun e w' ⟨he, hx⟩ => ⟨by rw [he, up2_is.1, up2_is.2]; rfl, hx⟩
theorem up3_call {W : World} :
    Calls Try.prog 10 #[.agg #[.int .i64 4, .int .i64 0, .slice none 0 0, .slice none 0 0]] W fun e w' => e = .returned (.iface 32 (.int .i64 5)) ∧ ∃ x, w' = ext W x :=
  (formCheck_any up3_form).mono fun e w' ⟨he, hx⟩ => ⟨by rw [he, up3_is]; rfl, hx⟩

theorem up_any (w : World) : Calls Try.prog 9 #[] w fun e w' => e = .returned (.bool true) ∧ ∃ x, w' = ext w x := by
  have he := eql_code
  go_enter Try.func9, Try.ntmps9
  go_wp2_with fail
  refine (up1_call (by simp) (by go_simp) (by go_simp) (by simp) (by go_simp)).mono ?_
  rintro e w' ⟨rfl, y1, rfl⟩
  go_wp2_with fail
  refine up2_call.mono ?_
  rintro e w' ⟨rfl, y2, rfl⟩
  go_wp2_with fail
  refine up3_call.mono ?_
  rintro e w' ⟨rfl, y3, rfl⟩
  go_wp2_with fail
  go_ret
  exact ⟨rfl, ext_intro (by repeat (first | exact grew_refl _ | (with_reducible assumption) | refine grew_alloc ?_ _ | refine grew_ext ?_ _ | refine grew_drew ?_ | refine grew_drewN ?_ _))⟩
end Go.Proofs.Ytdieipdbkpcgmaa
