/- Layer 2: what is amiss with a formula; its size. -/
import Derived.Test.YtdieipdbkpcgmaaFormD
namespace Go.Proofs.Ytdieipdbkpcgmaa
set_option linter.unusedSimpArgs false
set_option linter.unusedVariables false
open Go.RowKit

def formErr (F : Form) : Int := if deepN 64 F = true then 4 else if 4096 < total F then 2 else if fineB F = true then 0 else 5
theorem fe_deep {F : Form} (h : deepN 64 F = true) : formErr F = 4 := by simp [formErr, h]
theorem fe_long {F : Form} (h : deepN 64 F = false) (h2 : 4096 < total F) : formErr F = 2 := by simp [formErr, h, h2]
theorem fe_form {F : Form} (h : deepN 64 F = false) (h2 : ¬ 4096 < total F) (h3 : fineB F = false) : formErr F = 5 := by rw [formErr, h, if_neg (by simp), if_neg h2, h3]; simp
theorem fe_none {F : Form} (h : deepN 64 F = false) (h2 : ¬ 4096 < total F) (h3 : fineB F = true) : formErr F = 0 := by rw [formErr, h, if_neg (by simp), if_neg h2, h3]; simp

set_option maxHeartbeats 1000000 in
theorem formCheck_any {n : Nat} {F : Form} {cs : List Value} {w : World} (h : IsForm w n F cs) :
    Calls Try.prog 10 #[.agg cs.toArray] w fun e w' => e = .returned (errV (formErr F)) ∧ ∃ x, w' = ext w x := by
  have Hd := Lib.hid (fun W (g : Below w.heap.size w W) => deep_any 64 (by decide) 64 n F cs W rfl (h.mono g))
  have Hs := Lib.hid (fun W (g : Below w.heap.size w W) hd => size_any 64 (by decide) n F cs W hd (h.mono g))
  have Hf := Lib.hid (fun W (g : Below w.heap.size w W) => fine_any n F cs W (h.mono g))
  obtain ⟨a1, c1, a2, c2, rfl⟩ := form_cells h
  rcases Bool.eq_false_or_eq_true (deepN 64 F) with hd | hd
  · rw [hd] at Hd
    have HD := Lib.hid hd; clear hd
    go_enter Try.func10, Try.ntmps10
    go_wp2_with (first | (go_at_call 24; refine (Hd.out _ (by repeat (first | exact grew_refl _ | (with_reducible assumption) | refine grew_alloc ?_ _ | refine grew_ext ?_ _ | refine grew_drew ?_ | refine grew_drewN ?_ _))).mono ?_; rintro e w' ⟨rfl, y, rfl⟩))
    go_ret
    exact ⟨by rw [fe_deep HD.out]; rfl, ext_intro (by repeat (first | exact grew_refl _ | (with_reducible assumption) | refine grew_alloc ?_ _ | refine grew_ext ?_ _ | refine grew_drew ?_ | refine grew_drewN ?_ _))⟩
  · rw [hd] at Hd
    have HD := Lib.hid hd; clear hd
    go_enter Try.func10, Try.ntmps10
    go_wp2_with (first | (go_at_call 24; refine (Hd.out _ (by repeat (first | exact grew_refl _ | (with_reducible assumption) | refine grew_alloc ?_ _ | refine grew_ext ?_ _ | refine grew_drew ?_ | refine grew_drewN ?_ _))).mono ?_; rintro e w' ⟨rfl, y, rfl⟩) | fail)
    refine (Hs.out _ (by repeat (first | exact grew_refl _ | (with_reducible assumption) | refine grew_alloc ?_ _ | refine grew_ext ?_ _ | refine grew_drew ?_ | refine grew_drewN ?_ _)) HD.out).mono ?_
    rintro e w' ⟨r, rfl, hr, y2, rfl⟩
    by_cases h4 : r ≤ 4096
    · have ht : ¬ 4096 < total F := by have := hr.1 h4; omega
      have Ht := Lib.hid ht
      have hr1 := hr.2.2.1
      clear hr ht
      rcases Bool.eq_false_or_eq_true (fineB F) with hf | hf
      · rw [hf] at Hf
        have HF := Lib.hid hf; clear hf
        go_wp2_with (first | (go_at_call 26; refine (Hf.out _ (by repeat (first | exact grew_refl _ | (with_reducible assumption) | refine grew_alloc ?_ _ | refine grew_ext ?_ _ | refine grew_drew ?_ | refine grew_drewN ?_ _))).mono ?_; rintro e w' ⟨rfl, y, rfl⟩))
        go_ret
        exact ⟨by rw [fe_none HD.out Ht.out HF.out]; rfl, ext_intro (by repeat (first | exact grew_refl _ | (with_reducible assumption) | refine grew_alloc ?_ _ | refine grew_ext ?_ _ | refine grew_drew ?_ | refine grew_drewN ?_ _))⟩
      · rw [hf] at Hf
        have HF := Lib.hid hf; clear hf
        go_wp2_with (first | (go_at_call 26; refine (Hf.out _ (by repeat (first | exact grew_refl _ | (with_reducible assumption) | refine grew_alloc ?_ _ | refine grew_ext ?_ _ | refine grew_drew ?_ | refine grew_drewN ?_ _))).mono ?_; rintro e w' ⟨rfl, y, rfl⟩))
        go_ret
        exact ⟨by rw [fe_form HD.out Ht.out HF.out]; rfl, ext_intro (by repeat (first | exact grew_refl _ | (with_reducible assumption) | refine grew_alloc ?_ _ | refine grew_ext ?_ _ | refine grew_drew ?_ | refine grew_drewN ?_ _))⟩
    · have Ht := Lib.hid (hr.2.1 (by omega))
      clear hr
      go_wp2_with fail
      go_ret
      exact ⟨by rw [fe_long HD.out (by have := Ht.out; omega)]; rfl, ext_intro (by repeat (first | exact grew_refl _ | (with_reducible assumption) | refine grew_alloc ?_ _ | refine grew_ext ?_ _ | refine grew_drew ?_ | refine grew_drewN ?_ _))⟩

def formSize (F : Form) : Int := if formErr F = 0 then total F else 0
theorem fs_no {F : Form} (h : ¬ formErr F = 0) : formSize F = 0 := by simp [formSize, h]
theorem fs_yes {F : Form} (h : formErr F = 0) : formSize F = total F := by simp [formSize, h]
theorem fe_parts {F : Form} (h : formErr F = 0) : deepN 64 F = false ∧ total F ≤ 4096 ∧ fineB F = true := by
  unfold formErr at h
  split at h <;> try omega
  split at h <;> try omega
  split at h <;> try omega
  refine ⟨by simpa using ‹¬ deepN 64 F = true›, by omega, ‹_›⟩

theorem errV_zero : errV 0 = .nilIface := rfl
theorem errV_pos {n : Int} (h : ¬ n = 0) : errV n = .iface 32 (.int .i64 n) := by simp [errV, h]

set_option maxHeartbeats 1000000 in
theorem formSize_any {n : Nat} {F : Form} {cs : List Value} {w : World} (h : IsForm w n F cs) :
    Calls Try.prog 18 #[.agg cs.toArray] w fun e w' => e = .returned (.int .i64 (formSize F)) ∧ ∃ x, w' = ext w x := by
  have Hc := Lib.hid (fun W (g : Below w.heap.size w W) => formCheck_any (h.mono g))
  have Hs := Lib.hid (fun W (g : Below w.heap.size w W) hd => size_any 64 (by decide) n F cs W hd (h.mono g))
  obtain ⟨a1, c1, a2, c2, rfl⟩ := form_cells h
  by_cases he : formErr F = 0
  · rw [he, errV_zero] at Hc
    have HE := Lib.hid he; clear he
    go_enter Try.func18, Try.ntmps18
    go_wp2_with (first | (go_at_call 10; refine (Hc.out _ (by repeat (first | exact grew_refl _ | (with_reducible assumption) | refine grew_alloc ?_ _ | refine grew_ext ?_ _ | refine grew_drew ?_ | refine grew_drewN ?_ _))).mono ?_; rintro e w' ⟨rfl, y, rfl⟩))
    refine (Hs.out _ (by repeat (first | exact grew_refl _ | (with_reducible assumption) | refine grew_alloc ?_ _ | refine grew_ext ?_ _ | refine grew_drew ?_ | refine grew_drewN ?_ _)) (fe_parts HE.out).1).mono ?_
    rintro e w' ⟨r, rfl, hr, y2, rfl⟩
    have Hr := Lib.hid hr; clear hr
    go_wp2_with fail
    go_ret
    exact ⟨by rw [fs_yes HE.out, ← size_is Hr.out (fe_parts HE.out).2.1]; rfl, ext_intro (by repeat (first | exact grew_refl _ | (with_reducible assumption) | refine grew_alloc ?_ _ | refine grew_ext ?_ _ | refine grew_drew ?_ | refine grew_drewN ?_ _))⟩
  · rw [errV_pos he] at Hc
    have HE := Lib.hid he; clear he
    go_enter Try.func18, Try.ntmps18
    go_wp2_with (first | (go_at_call 10; refine (Hc.out _ (by repeat (first | exact grew_refl _ | (with_reducible assumption) | refine grew_alloc ?_ _ | refine grew_ext ?_ _ | refine grew_drew ?_ | refine grew_drewN ?_ _))).mono ?_; rintro e w' ⟨rfl, y, rfl⟩))
    go_ret
    exact ⟨by rw [fs_no HE.out]; rfl, ext_intro (by repeat (first | exact grew_refl _ | (with_reducible assumption) | refine grew_alloc ?_ _ | refine grew_ext ?_ _ | refine grew_drew ?_ | refine grew_drewN ?_ _))⟩
where
  size_is {F : Form} {b : Nat} {r : Int} (h : SizeIs F b r) (ht : total F ≤ 4096) : r = total F := by
    obtain ⟨h1, h2, _⟩ := h
    by_cases hr : r ≤ 4096
    · exact h1 hr
    · have := h2 (by omega); omega
end Go.Proofs.Ytdieipdbkpcgmaa
