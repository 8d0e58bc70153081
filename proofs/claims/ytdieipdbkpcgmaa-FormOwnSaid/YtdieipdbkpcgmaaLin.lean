/- Layer 1: what its functions answer, and their contracts. -/
import Derived.Test.YtdieipdbkpcgmaaBase
namespace Go.Proofs.Ytdieipdbkpcgmaa
set_option linter.unusedSimpArgs false
set_option linter.unusedVariables false
open Go.RowKit

def I64 (n : Int) : Prop := -9223372036854775808 ≤ n ∧ n ≤ 9223372036854775807

structure Mono where
  V : Int
  K : Int
instance : Inhabited Mono := ⟨⟨0, 0⟩⟩
structure Lin where
  C : Int
  T : List Mono
instance : Inhabited Lin := ⟨⟨0, []⟩⟩

def IsMono (m : Mono) (cs : List Value) : Prop := cs = [.int .i64 m.V, .int .i64 m.K] ∧ I64 m.V ∧ I64 m.K
/-- A form's two cells. -/
def IsLin (w : World) (L : Lin) (v : Value) : Prop := I64 L.C ∧ SliceOf w 2 IsMono v L.T

theorem IsLin.mono {w W : World} {L : Lin} {v : Value} (h : IsLin w L v) (hg : Below w.heap.size w W) : IsLin W L v :=
  ⟨h.1, h.2.mono hg fun _ _ _ h => h⟩

def coefB (k : Int) : Bool := decide (-1073741824 ≤ k) && decide (k ≤ 1073741824)
def varB (k : Int) : Bool := decide (0 ≤ k) && decide (k < 1048576)
def okAt (T : List Mono) (i : Nat) : Bool :=
  varB (T.getD i default).V && coefB (T.getD i default).K && !((T.getD i default).K == 0) && (decide (i = 0) || decide ((T.getD (i - 1) default).V < (T.getD i default).V))
def linOk (L : Lin) : Bool := coefB L.C && decide (L.T.length ≤ 64) && (List.range L.T.length).all (okAt L.T)
def errV (n : Int) : Value := if n = 0 then .nilIface else .iface 32 (.int .i64 n)
def linErr (L : Lin) : Int := if linOk L then 0 else 5

theorem linOk_of {L : Lin} (h1 : coefB L.C = true) (h2 : L.T.length ≤ 64) (h3 : ∀ i, i < L.T.length → okAt L.T i = true) : linOk L = true := by
  simp [linOk, h1, h2]; exact h3
theorem linOk_no1 {L : Lin} (h1 : coefB L.C = false) : linOk L = false := by simp [linOk, h1]
theorem linOk_no2 {L : Lin} (h1 : ¬ L.T.length ≤ 64) : linOk L = false := by simp [linOk, h1]
theorem linOk_no3 {L : Lin} (i : Nat) (hi : i < L.T.length) (h1 : okAt L.T i = false) : linOk L = false := by
  simp only [linOk, Bool.and_eq_false_iff, List.all_eq_false]; exact .inr ⟨i, by simpa using hi, by simp [h1]⟩

theorem getD_of {α : Type} [Inhabited α] {l : List α} {i : Nat} (h : i < l.length) : l.getD i default = l[i] := by simp [List.getD, h]

theorem okAt_pos {T : List Mono} {k : Nat} {m p : Mono} (h0 : 0 < k) (hm : T.getD k default = m) (hp : T.getD (k - 1) default = p) :
    okAt T k = (varB m.V && coefB m.K && !(m.K == 0) && decide (p.V < m.V)) := by
  unfold okAt; rw [hm, hp]; simp [show k ≠ 0 by omega]
theorem okAt_zero {T : List Mono} {k : Nat} {m : Mono} (h0 : ¬ 0 < k) (hm : T.getD k default = m) :
    okAt T k = (varB m.V && coefB m.K && !(m.K == 0)) := by
  unfold okAt; rw [hm]; simp [show k = 0 by omega]
theorem all_succ {p : Nat → Bool} {k : Nat} (h : ∀ i, i < k → p i = true) (hk : p k = true) : ∀ i, i < k + 1 → p i = true := by
  intro i hi
  rcases Nat.lt_succ_iff_lt_or_eq.1 hi with h' | rfl
  · exact h i h'
  · exact hk

theorem coef_any (k : Int) (w : World) : Calls Try.prog 50 #[.int .i64 k] w fun e w' => e = .returned (.bool (coefB k)) ∧ w = w' := by
  by_cases h : -1073741824 ≤ k
  all_goals
    go_enter Try.func50, Try.ntmps50
    go_wp2
    go_ret
    exact ⟨by simp [coefB] <;> omega, rfl⟩

theorem var_any (k : Int) (w : World) : Calls Try.prog 51 #[.int .i64 k] w fun e w' => e = .returned (.bool (varB k)) ∧ w = w' := by
  by_cases h : 0 ≤ k
  all_goals
    go_enter Try.func51, Try.ntmps51
    go_wp2
    go_ret
    exact ⟨by simp [varB] <;> omega, rfl⟩

set_option maxHeartbeats 1000000 in
theorem linCheck_any (L : Lin) (v : Value) (w : World) (h : IsLin w L v) :
    Calls Try.prog 39 #[.agg #[.int .i64 L.C, v]] w fun e w' => e = .returned (errV (linErr L)) ∧ ∃ x, w' = ext w x := by
  obtain ⟨_, a, cap, rfl, hl, hcap, hc⟩ := h
  have cc := coef_any L.C
  rcases Bool.eq_false_or_eq_true (coefB L.C) with h1 | h1
  · rw [h1] at cc
    have Hcc := Lib.hid cc; clear cc
    have H1 := Lib.hid h1; clear h1
    by_cases h2 : L.T.length ≤ 64
    · go_enter Try.func39, Try.ntmps39
      go_wp2_with (first | (go_at_call 50; refine (Hcc.out _).mono ?_; rintro e w' ⟨rfl, rfl⟩))
      go_loopw [19] (fun i wr => ∃ (k : Nat) (x : World), k ≤ L.T.length ∧ i = .int .i64 k ∧ wr = ext (w.alloc (.cells #[.int .i64 L.C, .slice a L.T.length cap] 29)) x ∧ Hid (∀ i, i < k → okAt L.T i = true)) (fun i _ => L.T.length - (intOf i).toNat)
      case atStart => exact ⟨0, _, by omega, rfl, (ext_of (grew_refl _)).symm, Lib.hid (fun i hi => absurd hi (Nat.not_lt_zero _))⟩
      case round =>
        obtain ⟨k, x, hk, rfl, rfl, hok⟩ := hrel
        by_cases hlt : k < L.T.length
        · obtain ⟨b, o, cs, rfl, hb, ⟨rfl, hV, hK⟩, _, hcell⟩ := hc k hlt
          have hc0 := hcell 0 (by simp)
          have hc1 := hcell 1 (by simp)
          have Hm := Lib.hid (getD_of hlt)
          generalize L.T[k] = m at *
          simp only [Nat.add_zero, List.getElem_cons_zero, List.getElem_cons_succ] at hc0 hc1
          by_cases hk0 : 0 < k
          · obtain ⟨b', o', cs', ha, hb', ⟨rfl, hV', hK'⟩, _, hcell'⟩ := hc (k - 1) (by omega)
            simp only [Option.some.injEq, Addr.mk.injEq, and_true] at ha
            obtain ⟨rfl, rfl⟩ := ha
            have hp0 := hcell' 0 (by simp)
            have Hp := Lib.hid (getD_of (show k - 1 < L.T.length by omega))
            generalize L.T[k - 1] = p at *
            simp only [Nat.add_zero, List.getElem_cons_zero] at hp0
            clear hcell hcell' hc
            have Hok := Lib.hid (okAt_pos hk0 Hm.out Hp.out)
            go_wp2_with fail
            refine wp_region_ext (by kernel_rfl) (by kernel_rfl) ?_
            repeat' (first | go_big_quiet_skip | (go_big_quiet_want; go_big_quiet_op; first | go_big_quiet_on | go_big_quiet_call ((first | (go_at_call 50; exact quiet_same (coef_any _ _)) | (go_at_call 51; exact quiet_same (var_any _ _))))) | (refine wpQuiet_guard_split rfl rfl rfl ?_ ?_ <;> (intro hg; (try simp only [decide_eq_true_eq, decide_eq_false_iff_not, Bool.and_eq_true, Bool.or_eq_true, Bool.and_eq_false_iff, Bool.or_eq_false_iff, Bool.not_eq_true', Bool.not_eq_false', Int.not_lt, Int.not_le] at hg); try simp only [Act.put, List.setIfInBounds_toArray, List.set_cons_succ, List.set_cons_zero])))
            all_goals (refine wpQuiet_nil ?_; intro _ hw'; obtain ⟨xq, hw''⟩ := hw'; subst hw'')
            all_goals go_wp2_with fail
            all_goals first
              | (go_ret; exact ⟨by rw [linErr, linOk_no3 k hlt (by rw [Hok.out]; simp [*])]; rfl, ext_intro (by repeat (first | exact grew_refl _ | (with_reducible assumption) | refine grew_alloc ?_ _ | refine grew_ext ?_ _ | refine grew_drew ?_ | refine grew_drewN ?_ _))⟩)
              | (go_roundw
                 case rel => exact ⟨k + 1, _, by omega, by go_num, (ext_of (by repeat (first | exact grew_refl _ | (with_reducible assumption) | refine grew_alloc ?_ _ | refine grew_ext ?_ _ | refine grew_drew ?_ | refine grew_drewN ?_ _))).symm, Lib.hid (all_succ hok.out (by rw [Hok.out]; simp [*]))⟩
                 case measure => simp [intOf]; omega)
          · have Hok := Lib.hid (okAt_zero hk0 Hm.out)
            clear hcell hc
            go_wp2_with fail
            refine wp_region_ext (by kernel_rfl) (by kernel_rfl) ?_
            repeat' (first | go_big_quiet_skip | (go_big_quiet_want; go_big_quiet_op; first | go_big_quiet_on | go_big_quiet_call ((first | (go_at_call 50; exact quiet_same (coef_any _ _)) | (go_at_call 51; exact quiet_same (var_any _ _))))) | (refine wpQuiet_guard_split rfl rfl rfl ?_ ?_ <;> (intro hg; (try simp only [decide_eq_true_eq, decide_eq_false_iff_not, Bool.and_eq_true, Bool.or_eq_true, Bool.and_eq_false_iff, Bool.or_eq_false_iff, Bool.not_eq_true', Bool.not_eq_false', Int.not_lt, Int.not_le] at hg); try simp only [Act.put, List.setIfInBounds_toArray, List.set_cons_succ, List.set_cons_zero])))
            all_goals (refine wpQuiet_nil ?_; intro _ hw'; obtain ⟨xq, hw''⟩ := hw'; subst hw'')
            all_goals go_wp2_with fail
            all_goals first
              | (go_ret; exact ⟨by rw [linErr, linOk_no3 k hlt (by rw [Hok.out]; simp [*])]; rfl, ext_intro (by repeat (first | exact grew_refl _ | (with_reducible assumption) | refine grew_alloc ?_ _ | refine grew_ext ?_ _ | refine grew_drew ?_ | refine grew_drewN ?_ _))⟩)
              | (go_roundw
                 case rel => exact ⟨k + 1, _, by omega, by go_num, (ext_of (by repeat (first | exact grew_refl _ | (with_reducible assumption) | refine grew_alloc ?_ _ | refine grew_ext ?_ _ | refine grew_drew ?_ | refine grew_drewN ?_ _))).symm, Lib.hid (all_succ hok.out (by rw [Hok.out]; simp [*]))⟩
                 case measure => simp [intOf]; omega)
        · go_wp2_with fail
          go_ret
          exact ⟨by rw [linErr, linOk_of H1.out h2 (fun i hi => hok.out i (by omega))]; rfl, ext_intro (by repeat (first | exact grew_refl _ | (with_reducible assumption) | refine grew_alloc ?_ _ | refine grew_ext ?_ _ | refine grew_drew ?_ | refine grew_drewN ?_ _))⟩
    · go_enter Try.func39, Try.ntmps39
      go_wp2_with (first | (go_at_call 50; refine (Hcc.out _).mono ?_; rintro e w' ⟨rfl, rfl⟩))
      go_ret
      exact ⟨by rw [linErr, linOk_no2 h2]; rfl, ext_intro (by repeat (first | exact grew_refl _ | (with_reducible assumption) | refine grew_alloc ?_ _ | refine grew_ext ?_ _ | refine grew_drew ?_ | refine grew_drewN ?_ _))⟩
  · rw [h1] at cc
    have Hcc := Lib.hid cc; clear cc
    have H1 := Lib.hid h1; clear h1
    go_enter Try.func39, Try.ntmps39
    go_wp2_with (first | (go_at_call 50; refine (Hcc.out _).mono ?_; rintro e w' ⟨rfl, rfl⟩))
    go_ret
    exact ⟨by rw [linErr, linOk_no1 H1.out]; rfl, ext_intro (by repeat (first | exact grew_refl _ | (with_reducible assumption) | refine grew_alloc ?_ _ | refine grew_ext ?_ _ | refine grew_drew ?_ | refine grew_drewN ?_ _))⟩
theorem linCheck_c {L : Lin} {v : Value} {w : World} (h : IsLin w L v) (c : Int) (hc : c = L.C) :
    Calls Try.prog 39 #[.agg #[.int .i64 c, v]] w fun e w' => e = .returned (errV (linErr L)) ∧ ∃ x, w' = ext w x := by subst hc; exact linCheck_any L v w h
end Go.Proofs.Ytdieipdbkpcgmaa
