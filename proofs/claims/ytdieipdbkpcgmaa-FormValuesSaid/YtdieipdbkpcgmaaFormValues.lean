/- FormValues: the walk. -/
import Derived.Test.YtdieipdbkpcgmaaRefF
import Derived.Test.YtdieipdbkpcgmaaUp
import Derived.Test.YtdieipdbkpcgmaaFormChecks
namespace Go.Proofs.Ytdieipdbkpcgmaa
set_option linter.unusedSimpArgs false
set_option linter.unusedVariables false
open Go.RowKit

def RFVPost (F : Form) (vals : List Int) (w : World) (e : Ending) (w' : World) : Prop := e = .returned (.tuple #[.bool (fvB F vals), .int .i64 (fvErr F vals)]) ∧ ∃ x, w' = ext w x

set_option maxHeartbeats 2000000 in
theorem rFormValue_any {n : Nat} {F : Form} {cs : List Value} {vV : Value} {vals : List Int} {w : World} (h : IsForm w n F cs) (hv : IsInts w vV vals) :
    Calls Try.prog 13 #[.agg cs.toArray, vV] w (RFVPost F vals w) := by
  have Hc := Lib.hid (fun W (g : Below w.heap.size w W) => rFormCheck_any (h.mono g))
  have Hf := Lib.hid (fun W (g : Below w.heap.size w W) hn => rFar_any n F cs vV vals W (h.mono g) (hv.mono g) hn)
  have Hi := Lib.hid (fun W (g : Below w.heap.size w W) h1 h2 => rIs_any n F cs vV vals W (h.mono g) (hv.mono g) h1 h2)
  obtain ⟨a1, c1, a2, c2, rfl⟩ := form_cells h
  obtain ⟨aV, capV, rfl, hlV, _⟩ := int_at hv
  clear hv
  by_cases he : formErr F = 0
  · have hp := fe_parts he
    have hnn : NonNeg F := fun v hv => ((vars_fine F hp.2.2).2 v hv).1
    have Hp := Lib.hid hp
    have Hnn := Lib.hid hnn
    rcases Bool.eq_false_or_eq_true (farF vals F) with hf | hf
    · have HE := Lib.hid (fv_far he hf)
      rw [he] at Hc
      rw [anyV_far, hf] at Hf
      clear he hf hp hnn
      go_enter Try.func13, Try.ntmps13
      go_wp2_with (first | (go_at_call 16; refine (Hc.out _ (by repeat (first | exact grew_refl _ | (with_reducible assumption) | refine grew_alloc ?_ _ | refine grew_ext ?_ _ | refine grew_drew ?_ | refine grew_drewN ?_ _))).mono ?_; rintro e w' ⟨rfl, y, rfl⟩) | (go_at_call 29; refine (Hf.out _ (by repeat (first | exact grew_refl _ | (with_reducible assumption) | refine grew_alloc ?_ _ | refine grew_ext ?_ _ | refine grew_drew ?_ | refine grew_drewN ?_ _)) Hnn.out).mono ?_; rintro e w' ⟨rfl, y2, rfl⟩))
      go_ret2
      exact ⟨by rw [HE.out.1, HE.out.2]; rfl, ext_intro (by repeat (first | exact grew_refl _ | (with_reducible assumption) | refine grew_alloc ?_ _ | refine grew_ext ?_ _ | refine grew_drew ?_ | refine grew_drewN ?_ _))⟩
    · have HE := Lib.hid (fv_yes he hf)
      have Hff := Lib.hid hf
      rw [he] at Hc
      rw [anyV_far, hf] at Hf
      clear he hf hp hnn
      go_enter Try.func13, Try.ntmps13
      go_wp2_with (first | (go_at_call 16; refine (Hc.out _ (by repeat (first | exact grew_refl _ | (with_reducible assumption) | refine grew_alloc ?_ _ | refine grew_ext ?_ _ | refine grew_drew ?_ | refine grew_drewN ?_ _))).mono ?_; rintro e w' ⟨rfl, y, rfl⟩) | (go_at_call 29; refine (Hf.out _ (by repeat (first | exact grew_refl _ | (with_reducible assumption) | refine grew_alloc ?_ _ | refine grew_ext ?_ _ | refine grew_drew ?_ | refine grew_drewN ?_ _)) Hnn.out).mono ?_; rintro e w' ⟨rfl, y2, rfl⟩) | (go_at_call 30; refine (Hi.out _ (by repeat (first | exact grew_refl _ | (with_reducible assumption) | refine grew_alloc ?_ _ | refine grew_ext ?_ _ | refine grew_drew ?_ | refine grew_drewN ?_ _)) Hp.out.2.2 Hff.out).mono ?_; rintro e w' ⟨rfl, y3, rfl⟩))
      go_ret2
      exact ⟨by rw [HE.out.1, HE.out.2]; rfl, ext_intro (by repeat (first | exact grew_refl _ | (with_reducible assumption) | refine grew_alloc ?_ _ | refine grew_ext ?_ _ | refine grew_drew ?_ | refine grew_drewN ?_ _))⟩
  · have HE := Lib.hid (fv_err (vals := vals) he)
    have hb : (formErr F != 0) = true := by simpa using he
    clear he
    rw [fvPost_eq]
    generalize formErr F = m at *
    go_enter Try.func13, Try.ntmps13
    go_wp2_with (first | (go_at_call 16; refine (Hc.out _ (by repeat (first | exact grew_refl _ | (with_reducible assumption) | refine grew_alloc ?_ _ | refine grew_ext ?_ _ | refine grew_drew ?_ | refine grew_drewN ?_ _))).mono ?_; rintro e w' ⟨rfl, y, rfl⟩))
    go_ret2
    exact ⟨by rw [HE.out.1, HE.out.2]; rfl, ext_intro (by repeat (first | exact grew_refl _ | (with_reducible assumption) | refine grew_alloc ?_ _ | refine grew_ext ?_ _ | refine grew_drew ?_ | refine grew_drewN ?_ _))⟩
where
  fvPost_eq {F : Form} {vals : List Int} {w : World} : RFVPost F vals w = fun e w' => e = .returned (.tuple #[.bool (fvB F vals), .int .i64 (fvErr F vals)]) ∧ ∃ x, w' = ext w x := rfl

theorem fv_range (F : Form) (vals : List Int) : 0 ≤ fvErr F vals ∧ fvErr F vals ≤ 16 := by
  have := fe_range F
  unfold fvErr; split
  · split <;> omega
  · exact this

set_option maxHeartbeats 2000000 in
theorem formValues_walk {n : Nat} {F : Form} {cs : List Value} {vV : Value} {vals : List Int} {w : World} (h : IsForm w n F cs) (hv : IsInts w vV vals) :
    Calls Try.prog 4 #[.agg cs.toArray, vV] w fun e w' => e = .returned (.bool true) ∧ ∃ x, w' = ext w x := by
  have Hsm := Lib.hid (fun W (g : Below w.heap.size w W) => small_any (h.mono g))
  have Hc := Lib.hid (fun W (g : Below w.heap.size w W) => formValue_any (h.mono g) (hv.mono g))
  have Hr := Lib.hid (fun W (g : Below w.heap.size w W) => rFormValue_any (h.mono g) (hv.mono g))
  have Hcode := Lib.hid (fun W => code_any (fvErr F vals) (fv_range F vals).1 (fv_range F vals).2 W)
  obtain ⟨a1, c1, a2, c2, rfl⟩ := form_cells h
  obtain ⟨aV, capV, rfl, hlV, _⟩ := int_at hv
  clear hv
  unfold FVPost at Hc
  unfold RFVPost at Hr
  have hrg := fv_range F vals
  by_cases h0 : fvErr F vals = 0
  · rw [h0, errV_zero] at Hc Hcode
    rw [h0] at Hr
    clear h0 hrg
    generalize fvB F vals = t at *
    go_enter Try.func4, Try.ntmps4
    go_wp2_with (first | (go_at_call 9; refine (up_any _).mono ?_; rintro e w' ⟨rfl, y, rfl⟩) | fail)
    refine (Hsm.out _ (by repeat (first | exact grew_refl _ | (with_reducible assumption) | refine grew_alloc ?_ _ | refine grew_ext ?_ _ | refine grew_drew ?_ | refine grew_drewN ?_ _))).mono ?_
    rintro e w' ⟨t1, rfl, y1, rfl⟩
    cases t1
    · go_wp2_with fail
      go_ret
      exact ⟨rfl, ext_intro (by repeat (first | exact grew_refl _ | (with_reducible assumption) | refine grew_alloc ?_ _ | refine grew_ext ?_ _ | refine grew_drew ?_ | refine grew_drewN ?_ _))⟩
    · cases t
      all_goals
        go_wp2_with (first | (go_at_call 12; refine (Hc.out _ (by repeat (first | exact grew_refl _ | (with_reducible assumption) | refine grew_alloc ?_ _ | refine grew_ext ?_ _ | refine grew_drew ?_ | refine grew_drewN ?_ _))).mono ?_; rintro e w' ⟨rfl, y2, rfl⟩) | (go_at_call 13; refine (Hr.out _ (by repeat (first | exact grew_refl _ | (with_reducible assumption) | refine grew_alloc ?_ _ | refine grew_ext ?_ _ | refine grew_drew ?_ | refine grew_drewN ?_ _))).mono ?_; rintro e w' ⟨rfl, y3, rfl⟩) | (go_at_call 14; refine (Hcode.out _).mono ?_; rintro e w' ⟨rfl, rfl⟩))
        go_ret
        exact ⟨rfl, ext_intro (by repeat (first | exact grew_refl _ | (with_reducible assumption) | refine grew_alloc ?_ _ | refine grew_ext ?_ _ | refine grew_drew ?_ | refine grew_drewN ?_ _))⟩
  · rw [errV_pos h0] at Hc Hcode
    clear h0
    generalize fvB F vals = t at *
    generalize fvErr F vals = m at *
    go_enter Try.func4, Try.ntmps4
    go_wp2_with (first | (go_at_call 9; refine (up_any _).mono ?_; rintro e w' ⟨rfl, y, rfl⟩) | fail)
    refine (Hsm.out _ (by repeat (first | exact grew_refl _ | (with_reducible assumption) | refine grew_alloc ?_ _ | refine grew_ext ?_ _ | refine grew_drew ?_ | refine grew_drewN ?_ _))).mono ?_
    rintro e w' ⟨t1, rfl, y1, rfl⟩
    cases t1
    · go_wp2_with fail
      go_ret
      exact ⟨rfl, ext_intro (by repeat (first | exact grew_refl _ | (with_reducible assumption) | refine grew_alloc ?_ _ | refine grew_ext ?_ _ | refine grew_drew ?_ | refine grew_drewN ?_ _))⟩
    · cases t
      all_goals
        go_wp2_with (first | (go_at_call 12; refine (Hc.out _ (by repeat (first | exact grew_refl _ | (with_reducible assumption) | refine grew_alloc ?_ _ | refine grew_ext ?_ _ | refine grew_drew ?_ | refine grew_drewN ?_ _))).mono ?_; rintro e w' ⟨rfl, y2, rfl⟩) | (go_at_call 13; refine (Hr.out _ (by repeat (first | exact grew_refl _ | (with_reducible assumption) | refine grew_alloc ?_ _ | refine grew_ext ?_ _ | refine grew_drew ?_ | refine grew_drewN ?_ _))).mono ?_; rintro e w' ⟨rfl, y3, rfl⟩) | (go_at_call 14; refine (Hcode.out _).mono ?_; rintro e w' ⟨rfl, rfl⟩))
        go_ret
        exact ⟨by show Ending.returned (.bool _) = _; congr 2 <;> simp, ext_intro (by repeat (first | exact grew_refl _ | (with_reducible assumption) | refine grew_alloc ?_ _ | refine grew_ext ?_ _ | refine grew_drew ?_ | refine grew_drewN ?_ _))⟩
end Go.Proofs.Ytdieipdbkpcgmaa
