/- FormChecks: the walk. -/
import Derived.Test.YtdieipdbkpcgmaaUp
namespace Go.Proofs.Ytdieipdbkpcgmaa
set_option linter.unusedSimpArgs false
set_option linter.unusedVariables false
open Go.RowKit

theorem fe_range (F : Form) : 0 ≤ formErr F ∧ formErr F ≤ 16 := by
  unfold formErr; split
  · omega
  split
  · omega
  split <;> omega
theorem left_yes {F : Form} (h : total F ≤ 4096) : leftOf 4096 (total F) = 4096 - total F := by unfold leftOf; rw [if_pos (by omega)]

set_option maxHeartbeats 2000000 in
theorem formChecks_walk {n : Nat} {F : Form} {cs : List Value} {w : World} (h : IsForm w n F cs) :
    Calls Try.prog 6 #[.agg cs.toArray] w fun e w' => e = .returned (.bool true) ∧ ∃ x, w' = ext w x := by
  have Hsm := Lib.hid (fun W (g : Below w.heap.size w W) => small_any (h.mono g))
  have Hc := Lib.hid (fun W (g : Below w.heap.size w W) => formCheck_any (h.mono g))
  have Hr := Lib.hid (fun W (g : Below w.heap.size w W) => rFormCheck_any (h.mono g))
  have Hs := Lib.hid (fun W (g : Below w.heap.size w W) => rSize_any n F cs W 4096 (by decide) (by decide) (h.mono g))
  have Hz := Lib.hid (fun W (g : Below w.heap.size w W) => formSize_any (h.mono g))
  have hcode := fun W => code_any (formErr F) (fe_range F).1 (fe_range F).2 W
  have Hcode := Lib.hid hcode
  clear hcode
  obtain ⟨a1, c1, a2, c2, rfl⟩ := form_cells h
  by_cases he : formErr F = 0
  · have ht := (fe_parts he).2.1
    rw [left_yes ht] at Hs
    rw [fs_yes he] at Hz
    rw [he, errV_zero] at Hc Hcode
    rw [he] at Hr
    clear he
    generalize total F = t at *
    go_enter Try.func6, Try.ntmps6
    go_wp2_with (first | (go_at_call 9; refine (up_any _).mono ?_; rintro e w' ⟨rfl, y, rfl⟩) | fail)
    refine (Hsm.out _ (by repeat (first | exact grew_refl _ | (with_reducible assumption) | refine grew_alloc ?_ _ | refine grew_ext ?_ _ | refine grew_drew ?_ | refine grew_drewN ?_ _))).mono ?_
    rintro e w' ⟨t1, rfl, y1, rfl⟩
    cases t1
    · go_wp2_with fail
      go_ret
      exact ⟨rfl, ext_intro (by repeat (first | exact grew_refl _ | (with_reducible assumption) | refine grew_alloc ?_ _ | refine grew_ext ?_ _ | refine grew_drew ?_ | refine grew_drewN ?_ _))⟩
    · go_wp2_with (first | (go_at_call 10; refine (Hc.out _ (by repeat (first | exact grew_refl _ | (with_reducible assumption) | refine grew_alloc ?_ _ | refine grew_ext ?_ _ | refine grew_drew ?_ | refine grew_drewN ?_ _))).mono ?_; rintro e w' ⟨rfl, y2, rfl⟩) | (go_at_call 16; refine (Hr.out _ (by repeat (first | exact grew_refl _ | (with_reducible assumption) | refine grew_alloc ?_ _ | refine grew_ext ?_ _ | refine grew_drew ?_ | refine grew_drewN ?_ _))).mono ?_; rintro e w' ⟨rfl, y3, rfl⟩) | (go_at_call 17; refine (Hs.out _ (by repeat (first | exact grew_refl _ | (with_reducible assumption) | refine grew_alloc ?_ _ | refine grew_ext ?_ _ | refine grew_drew ?_ | refine grew_drewN ?_ _))).mono ?_; rintro e w' ⟨rfl, y4, rfl⟩) | (go_at_call 14; refine (Hcode.out _).mono ?_; rintro e w' ⟨rfl, rfl⟩) | (go_at_call 18; refine (Hz.out _ (by repeat (first | exact grew_refl _ | (with_reducible assumption) | refine grew_alloc ?_ _ | refine grew_ext ?_ _ | refine grew_drew ?_ | refine grew_drewN ?_ _))).mono ?_; rintro e w' ⟨rfl, y5, rfl⟩))
      go_ret
      exact ⟨by show Ending.returned (.bool _) = _; congr 2; simp; omega, ext_intro (by repeat (first | exact grew_refl _ | (with_reducible assumption) | refine grew_alloc ?_ _ | refine grew_ext ?_ _ | refine grew_drew ?_ | refine grew_drewN ?_ _))⟩
  · rw [fs_no he] at Hz
    rw [errV_pos he] at Hc Hcode
    have hr := fe_range F
    have hb : (formErr F == 0) = false := by simpa using he
    clear he
    generalize formErr F = m at *
    go_enter Try.func6, Try.ntmps6
    go_wp2_with (first | (go_at_call 9; refine (up_any _).mono ?_; rintro e w' ⟨rfl, y, rfl⟩) | fail)
    refine (Hsm.out _ (by repeat (first | exact grew_refl _ | (with_reducible assumption) | refine grew_alloc ?_ _ | refine grew_ext ?_ _ | refine grew_drew ?_ | refine grew_drewN ?_ _))).mono ?_
    rintro e w' ⟨t1, rfl, y1, rfl⟩
    cases t1
    · go_wp2_with fail
      go_ret
      exact ⟨rfl, ext_intro (by repeat (first | exact grew_refl _ | (with_reducible assumption) | refine grew_alloc ?_ _ | refine grew_ext ?_ _ | refine grew_drew ?_ | refine grew_drewN ?_ _))⟩
    · go_wp2_with (first | (go_at_call 10; refine (Hc.out _ (by repeat (first | exact grew_refl _ | (with_reducible assumption) | refine grew_alloc ?_ _ | refine grew_ext ?_ _ | refine grew_drew ?_ | refine grew_drewN ?_ _))).mono ?_; rintro e w' ⟨rfl, y2, rfl⟩) | (go_at_call 16; refine (Hr.out _ (by repeat (first | exact grew_refl _ | (with_reducible assumption) | refine grew_alloc ?_ _ | refine grew_ext ?_ _ | refine grew_drew ?_ | refine grew_drewN ?_ _))).mono ?_; rintro e w' ⟨rfl, y3, rfl⟩) | (go_at_call 14; refine (Hcode.out _).mono ?_; rintro e w' ⟨rfl, rfl⟩) | (go_at_call 18; refine (Hz.out _ (by repeat (first | exact grew_refl _ | (with_reducible assumption) | refine grew_alloc ?_ _ | refine grew_ext ?_ _ | refine grew_drew ?_ | refine grew_drewN ?_ _))).mono ?_; rintro e w' ⟨rfl, y5, rfl⟩))
      go_ret
      exact ⟨by show Ending.returned (.bool _) = _; congr 2, ext_intro (by repeat (first | exact grew_refl _ | (with_reducible assumption) | refine grew_alloc ?_ _ | refine grew_ext ?_ _ | refine grew_drew ?_ | refine grew_drewN ?_ _))⟩
end Go.Proofs.Ytdieipdbkpcgmaa
