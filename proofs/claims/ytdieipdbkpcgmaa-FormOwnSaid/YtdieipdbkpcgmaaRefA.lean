/- The document's answer for layer 1. -/
import Derived.Test.YtdieipdbkpcgmaaLinB
namespace Go.Proofs.Ytdieipdbkpcgmaa
set_option linter.unusedSimpArgs false
set_option linter.unusedVariables false
open Go.RowKit

theorem rCoef_any (k : Int) (w : World) : Calls Try.prog 52 #[.int .i64 k] w fun e w' => e = .returned (.bool (coefB k)) ∧ w = w' := by
  by_cases h : -1073741824 ≤ k
  all_goals
    go_enter Try.func52, Try.ntmps52
    go_wp2
    go_ret
    exact ⟨by simp [coefB] <;> omega, rfl⟩

theorem ok_v {T : List Mono} {k : Nat} {m : Mono} (hm : T.getD k default = m) (h : m.V < 0 ∨ 1048576 ≤ m.V) : okAt T k = false := by
  unfold okAt; rw [hm]
  have : varB m.V = false := by
    simp only [varB, Bool.and_eq_false_iff, decide_eq_false_iff_not]; omega
  simp [this]
theorem ok_k0 {T : List Mono} {k : Nat} {m : Mono} (hm : T.getD k default = m) (h : (m.K == 0) = true) : okAt T k = false := by
  unfold okAt; rw [hm]; simp [h]
theorem ok_k {T : List Mono} {k : Nat} {m : Mono} (hm : T.getD k default = m) (h : coefB m.K = false) : okAt T k = false := by
  unfold okAt; rw [hm]; simp [h]
theorem ok_p {T : List Mono} {k : Nat} {m p : Mono} (h0 : 0 < k) (hm : T.getD k default = m) (hp : T.getD (k - 1) default = p) (h : m.V ≤ p.V) : okAt T k = false := by
  rw [okAt_pos h0 hm hp]
  have : decide (p.V < m.V) = false := by simpa using h
  simp [this]
theorem ok_y {T : List Mono} {k : Nat} {m : Mono} (hm : T.getD k default = m) (h1 : 0 ≤ m.V) (h2 : m.V < 1048576) (h3 : (m.K == 0) = false) (h4 : coefB m.K = true) (h5 : k = 0 ∨ (T.getD (k - 1) default).V < m.V) : okAt T k = true := by
  unfold okAt; rw [hm]
  simp only [varB, h1, h2, h3, h4, decide_true, Bool.and_self, Bool.not_false, Bool.true_and, Bool.or_eq_true, decide_eq_true_eq]
  exact h5

set_option maxHeartbeats 2000000 in
theorem rLinCheck_c {L : Lin} {v : Value} {w : World} (h : IsLin w L v) (c : Int) (hc : c = L.C) :
    Calls Try.prog 46 #[.agg #[.int .i64 c, v]] w fun e w' => e = .returned (.bool (linOk L)) ∧ ∃ x, w' = ext w x := by
  subst hc
  obtain ⟨_, a, cap, rfl, hl, hcap, hc⟩ := h
  have cc := rCoef_any L.C
  rcases Bool.eq_false_or_eq_true (coefB L.C) with h1 | h1
  · rw [h1] at cc
    have Hcc := Lib.hid cc; clear cc
    have H1 := Lib.hid h1; clear h1
    have Hc := Lib.hid hc; clear hc
    by_cases h2 : L.T.length ≤ 64
    · go_enter Try.func46, Try.ntmps46
      go_wp2_with (first | (go_at_call 52; refine (Hcc.out _).mono ?_; rintro e w' ⟨rfl, rfl⟩))
      go_loopw [3] (fun i wr => ∃ (k : Nat) (x : World), k ≤ L.T.length ∧ i = .int .i64 k ∧ wr = ext (w.alloc (.cells #[.int .i64 L.C, .slice a L.T.length cap] 29)) x ∧ Hid (∀ i, i < k → okAt L.T i = true)) (fun i _ => L.T.length - (intOf i).toNat)
      case atStart => exact ⟨0, _, by omega, rfl, (ext_of (grew_refl _)).symm, Lib.hid (fun i hi => absurd hi (Nat.not_lt_zero _))⟩
      case round =>
        obtain ⟨k, x, hk, rfl, rfl, hok⟩ := hrel
        by_cases hlt : k < L.T.length
        · obtain ⟨b, o, cs, rfl, hb, ⟨rfl, hV, hK⟩, _, hcell⟩ := Hc.out k hlt
          have hc0 := hcell 0 (by simp)
          have hc1 := hcell 1 (by simp)
          have Hm := Lib.hid (getD_of hlt)
          generalize L.T[k] = m at *
          simp only [Nat.add_zero, List.getElem_cons_zero, List.getElem_cons_succ] at hc0 hc1
          clear hcell
          by_cases hk0 : 0 < k
          · obtain ⟨b', o', cs', ha, hb', ⟨rfl, hV', hK'⟩, _, hcell'⟩ := Hc.out (k - 1) (by omega)
            simp only [Option.some.injEq, Addr.mk.injEq, and_true] at ha
            obtain ⟨rfl, rfl⟩ := ha
            have hp0 := hcell' 0 (by simp)
            have Hp := Lib.hid (getD_of (show k - 1 < L.T.length by omega))
            generalize L.T[k - 1] = p at *
            simp only [Nat.add_zero, List.getElem_cons_zero] at hp0
            clear hcell'
            go_wp2_with fail
            refine wp_region_ext (by kernel_rfl) (by kernel_rfl) ?_
            repeat' (first | go_big_quiet_skip | (go_big_quiet_want; go_big_quiet_op; first | go_big_quiet_on | go_big_quiet_call ((first | (go_at_call 52; exact quiet_same (rCoef_any _ _))))) | (refine wpQuiet_guard_split rfl rfl rfl ?_ ?_ <;> (intro hg; (try simp only [decide_eq_true_eq, decide_eq_false_iff_not, Bool.and_eq_true, Bool.or_eq_true, Bool.and_eq_false_iff, Bool.or_eq_false_iff, Bool.not_eq_true', Bool.not_eq_false', Int.not_lt, Int.not_le] at hg); try simp only [Act.put, List.setIfInBounds_toArray, List.set_cons_succ, List.set_cons_zero])))
            all_goals (refine wpQuiet_nil ?_; intro _ hw'; obtain ⟨xq, hw''⟩ := hw'; subst hw'')
            all_goals go_wp2_with fail
            all_goals first
              | (go_ret; refine ⟨?_, ext_intro (by repeat (first | exact grew_refl _ | (with_reducible assumption) | refine grew_alloc ?_ _ | refine grew_ext ?_ _ | refine grew_drew ?_ | refine grew_drewN ?_ _))⟩; show Ending.returned (.bool _) = _; rw [linOk_no3 k hlt (by first | (with_reducible exact ok_v Hm.out (Or.inl (by with_reducible assumption))) | (with_reducible exact ok_v Hm.out (Or.inr (by with_reducible assumption))) | (with_reducible exact ok_k0 Hm.out (by with_reducible assumption)) | (with_reducible exact ok_k Hm.out (by with_reducible assumption)) | (with_reducible exact ok_p hk0 Hm.out Hp.out (by with_reducible assumption)))])
              | (go_roundw
                 case rel => exact ⟨k + 1, _, by omega, by go_num, (ext_of (by repeat (first | exact grew_refl _ | (with_reducible assumption) | refine grew_alloc ?_ _ | refine grew_ext ?_ _ | refine grew_drew ?_ | refine grew_drewN ?_ _))).symm, Lib.hid (all_succ hok.out (ok_y Hm.out (by omega) (by omega) (by with_reducible assumption) (by with_reducible assumption) (Or.inr (by rw [Hp.out]; omega))))⟩
                 case measure => simp [intOf]; omega)
          · go_wp2_with fail
            refine wp_region_ext (by kernel_rfl) (by kernel_rfl) ?_
            repeat' (first | go_big_quiet_skip | (go_big_quiet_want; go_big_quiet_op; first | go_big_quiet_on | go_big_quiet_call ((first | (go_at_call 52; exact quiet_same (rCoef_any _ _))))) | (refine wpQuiet_guard_split rfl rfl rfl ?_ ?_ <;> (intro hg; (try simp only [decide_eq_true_eq, decide_eq_false_iff_not, Bool.and_eq_true, Bool.or_eq_true, Bool.and_eq_false_iff, Bool.or_eq_false_iff, Bool.not_eq_true', Bool.not_eq_false', Int.not_lt, Int.not_le] at hg); try simp only [Act.put, List.setIfInBounds_toArray, List.set_cons_succ, List.set_cons_zero])))
            all_goals (refine wpQuiet_nil ?_; intro _ hw'; obtain ⟨xq, hw''⟩ := hw'; subst hw'')
            all_goals go_wp2_with fail
            all_goals first
              | (go_ret; refine ⟨?_, ext_intro (by repeat (first | exact grew_refl _ | (with_reducible assumption) | refine grew_alloc ?_ _ | refine grew_ext ?_ _ | refine grew_drew ?_ | refine grew_drewN ?_ _))⟩; show Ending.returned (.bool _) = _; rw [linOk_no3 k hlt (by first | (with_reducible exact ok_v Hm.out (Or.inl (by with_reducible assumption))) | (with_reducible exact ok_v Hm.out (Or.inr (by with_reducible assumption))) | (with_reducible exact ok_k0 Hm.out (by with_reducible assumption)) | (with_reducible exact ok_k Hm.out (by with_reducible assumption)))])
              | (go_roundw
                 case rel => exact ⟨k + 1, _, by omega, by go_num, (ext_of (by repeat (first | exact grew_refl _ | (with_reducible assumption) | refine grew_alloc ?_ _ | refine grew_ext ?_ _ | refine grew_drew ?_ | refine grew_drewN ?_ _))).symm, Lib.hid (all_succ hok.out (ok_y Hm.out (by omega) (by omega) (by with_reducible assumption) (by with_reducible assumption) (Or.inl (by omega))))⟩
                 case measure => simp [intOf]; omega)
        · go_wp2_with fail
          go_ret
          exact ⟨by rw [linOk_of H1.out h2 (fun i hi => hok.out i (by omega))]; rfl, ext_intro (by repeat (first | exact grew_refl _ | (with_reducible assumption) | refine grew_alloc ?_ _ | refine grew_ext ?_ _ | refine grew_drew ?_ | refine grew_drewN ?_ _))⟩
    · go_enter Try.func46, Try.ntmps46
      go_wp2_with (first | (go_at_call 52; refine (Hcc.out _).mono ?_; rintro e w' ⟨rfl, rfl⟩))
      all_goals (go_ret; exact ⟨by rw [linOk_no2 h2]; rfl, ext_intro (by repeat (first | exact grew_refl _ | (with_reducible assumption) | refine grew_alloc ?_ _ | refine grew_ext ?_ _ | refine grew_drew ?_ | refine grew_drewN ?_ _))⟩)
  · rw [h1] at cc
    have Hcc := Lib.hid cc; clear cc
    have H1 := Lib.hid h1; clear h1
    go_enter Try.func46, Try.ntmps46
    go_wp2_with (first | (go_at_call 52; refine (Hcc.out _).mono ?_; rintro e w' ⟨rfl, rfl⟩))
    all_goals (go_ret; exact ⟨by rw [linOk_no1 H1.out]; rfl, ext_intro (by repeat (first | exact grew_refl _ | (with_reducible assumption) | refine grew_alloc ?_ _ | refine grew_ext ?_ _ | refine grew_drew ?_ | refine grew_drewN ?_ _))⟩)

theorem rOf_any {vals : List Int} {vV : Value} {w : World} (hv : IsInts w vV vals) (v : Int) (h0 : 0 ≤ v) :
    Calls Try.prog 44 #[vV, .int .i64 v] w fun e w' => e = .returned (.int .i64 (valAt vals v)) ∧ w = w' := by
  obtain ⟨aV, capV, rfl, hlV, hcV⟩ := int_at hv
  by_cases hV : v < vals.length
  · obtain ⟨bv, ov, rfl, hbv, hcv, h64⟩ := hcV v.toNat (by omega)
    have hx : vals.getD v.toNat 0 = valAt vals v := by simp [valAt, hV]
    rw [hx] at hcv
    clear hx hcV h64 hv
    generalize valAt vals v = x at *
    go_enter Try.func44, Try.ntmps44
    go_wp2_with fail
    go_ret
    exact ⟨rfl, rfl⟩
  · have hx : valAt vals v = 0 := by simp [valAt, hV]
    rw [hx]
    clear hx hcV hv
    go_enter Try.func44, Try.ntmps44
    go_wp2_with fail
    go_ret
    exact ⟨rfl, rfl⟩
end Go.Proofs.Ytdieipdbkpcgmaa
