/- Layer 2: the value of any formula. -/
import Derived.Test.YtdieipdbkpcgmaaFormF
namespace Go.Proofs.Ytdieipdbkpcgmaa
set_option linter.unusedSimpArgs false
set_option linter.unusedVariables false
open Go.RowKit

theorem fine_T {F : Form} (h : fineB F = true) : linOk F.L = true ∨ F.L.T = [] := by
  obtain ⟨K, L, ks⟩ := F
  simp only [fineB] at h
  split at h
  · simp only [Bool.and_eq_true, decide_eq_true_eq] at h; exact .inr (List.eq_nil_of_length_eq_zero h.1.2)
  split at h
  · simp only [Bool.and_eq_true, decide_eq_true_eq] at h; exact .inr (List.eq_nil_of_length_eq_zero h.1.2)
  split at h
  · simp only [Bool.and_eq_true] at h; exact .inl h.1
  split at h
  · simp only [Bool.and_eq_true] at h; exact .inl h.1
  split at h
  · simp only [Bool.and_eq_true, decide_eq_true_eq] at h; exact .inr (List.eq_nil_of_length_eq_zero h.1.1.2)
  split at h
  · simp only [Bool.and_eq_true, decide_eq_true_eq] at h; exact .inr (List.eq_nil_of_length_eq_zero h.1.2)
  split at h
  · simp only [Bool.and_eq_true, decide_eq_true_eq] at h; exact .inr (List.eq_nil_of_length_eq_zero h.1.2)
  · cases h

mutual
theorem vars_fine : ∀ F : Form, fineB F = true → ((vars F).length ≤ 64 * total F ∧ ∀ v ∈ vars F, 0 ≤ v ∧ v < 1048576)
  | ⟨K, L, ks⟩, h => by
    have hk := varss_fine ks (fun G hG => fine_kids h hG)
    have hT := fine_T h
    simp only at hT
    rw [vars_eq, total_eq, List.length_append, List.length_map]
    simp only
    have h64 : L.T.length ≤ 64 ∧ ∀ m ∈ L.T, 0 ≤ m.V ∧ m.V < 1048576 := by
      rcases hT with hT | hT
      · refine ⟨(linOk_parts hT).2, fun m hm => ?_⟩
        obtain ⟨i, hi, rfl⟩ := List.getElem_of_mem hm
        exact (linOk_mono hT hi).1
      · rw [hT]; exact ⟨by simp, fun m hm => by cases hm⟩
    refine ⟨by have := h64.1; have := hk.1; omega, fun v hv => ?_⟩
    rcases List.mem_append.1 hv with hv | hv
    · obtain ⟨m, hm, rfl⟩ := List.mem_map.1 hv
      exact h64.2 m hm
    · exact hk.2 v hv
theorem varss_fine : ∀ ks : List Form, (∀ G ∈ ks, fineB G = true) → ((varss ks).length ≤ 64 * totals ks ∧ ∀ v ∈ varss ks, 0 ≤ v ∧ v < 1048576)
  | [], _ => ⟨by simp [varss, totals], fun v hv => by simp [varss] at hv⟩
  | k :: ks, h => by
    have h1 := vars_fine k (h k (by simp))
    have h2 := varss_fine ks (fun G hG => h G (by simp [hG]))
    simp only [varss, totals, List.length_append]
    refine ⟨by omega, fun v hv => ?_⟩
    rcases List.mem_append.1 hv with hv | hv
    · exact h1.2 v hv
    · exact h2.2 v hv
end

theorem getD0 {l : List Int} {i : Nat} (h : i < l.length) : l.getD i 0 = l[i] := by simp [List.getD, h]
theorem map_flat (l : List Int) : l.map intV = (l.map fun z => [intV z]).flatten := by
  induction l with
  | nil => rfl
  | cons x l ih => simp only [List.map_cons, List.flatten_cons, ← ih]; rfl
theorem ints_own {w W : World} {v : Value} {l : List Int} (h : OwnInts w W v l) (h64 : ∀ z ∈ l, I64 z) (hl : l.length ≤ 1000000000) : IsInts W v l := by
  unfold OwnInts at h
  rw [map_flat] at h
  refine sliceOf_own (by decide) h (by simp) (fun i hi h' => ?_) (by omega)
  simp only [List.getElem_map]
  exact ⟨⟨rfl, h64 _ (List.getElem_mem hi)⟩, rfl⟩

def fvErr (F : Form) (vals : List Int) : Int := if formErr F = 0 then (if farF vals F = true then 1 else 0) else formErr F
def fvB (F : Form) (vals : List Int) : Bool := if formErr F = 0 ∧ farF vals F = false then truth vals F else false
theorem fv_err {F : Form} {vals : List Int} (h : ¬ formErr F = 0) : fvErr F vals = formErr F ∧ fvB F vals = false := by simp [fvErr, fvB, h]
theorem fv_far {F : Form} {vals : List Int} (h : formErr F = 0) (hf : farF vals F = true) : fvErr F vals = 1 ∧ fvB F vals = false := by simp [fvErr, fvB, h, hf]
theorem fv_yes {F : Form} {vals : List Int} (h : formErr F = 0) (hf : farF vals F = false) : fvErr F vals = 0 ∧ fvB F vals = truth vals F := by simp [fvErr, fvB, h, hf]
theorem farF_hit {F : Form} {vals : List Int} {k : Nat} (h : k < (vars F).length) (hf : farB (valAt vals ((vars F).getD k 0)) = true) : farF vals F = true := by
  simp only [farF, List.any_eq_true]
  exact ⟨_, by rw [getD0 h]; exact List.getElem_mem h, hf⟩
theorem farF_none {F : Form} {vals : List Int} (hf : ∀ i, i < (vars F).length → farB (valAt vals ((vars F).getD i 0)) = false) : farF vals F = false := by
  simp only [farF, List.any_eq_false]
  intro v hv
  obtain ⟨i, hi, rfl⟩ := List.getElem_of_mem hv
  have := hf i hi
  rw [getD0 hi] at this
  simp [this]

def FVPost (F : Form) (vals : List Int) (w : World) (e : Ending) (w' : World) : Prop := e = .returned (.tuple #[.bool (fvB F vals), errV (fvErr F vals)]) ∧ ∃ x, w' = ext w x

set_option maxRecDepth 100000 in
set_option maxHeartbeats 4000000 in
theorem formValue_any {n : Nat} {F : Form} {cs : List Value} {vV : Value} {vals : List Int} {w : World} (h : IsForm w n F cs) (hv : IsInts w vV vals) :
    Calls Try.prog 12 #[.agg cs.toArray, vV] w (FVPost F vals w) := by
  have Hc := Lib.hid (fun W (g : Below w.heap.size w W) => formCheck_any (h.mono g))
  have Hg := Lib.hid (fun W (g : Below w.heap.size w W) hl => gather_any n F cs W (h.mono g) hl)
  have Ht := Lib.hid (fun W (g : Below w.heap.size w W) h1 h2 => truth_any n F cs vV vals W (h.mono g) (hv.mono g) h1 h2)
  obtain ⟨a1, c1, a2, c2, rfl⟩ := form_cells h
  obtain ⟨aV, capV, rfl, hlV, hcV⟩ := int_at hv
  have HcV := Lib.hid hcV
  clear hcV hv
  by_cases he : formErr F = 0
  · rw [he, errV_zero] at Hc
    have hp := fe_parts he
    have hvf := vars_fine F hp.2.2
    have hlen : (vars F).length ≤ 1000000 := by have := hvf.1; have := hp.2.1; omega
    have HE := Lib.hid he
    have Hp := Lib.hid hp
    have Hvf := Lib.hid hvf
    clear he hp hvf
    go_enter Try.func12, Try.ntmps12
    go_wp2_with (first | (go_at_call 10; refine (Hc.out _ (by repeat (first | exact grew_refl _ | (with_reducible assumption) | refine grew_alloc ?_ _ | refine grew_ext ?_ _ | refine grew_drew ?_ | refine grew_drewN ?_ _))).mono ?_; rintro e w' ⟨rfl, y, rfl⟩))
    refine (Hg.out _ (by repeat (first | exact grew_refl _ | (with_reducible assumption) | refine grew_alloc ?_ _ | refine grew_ext ?_ _ | refine grew_drew ?_ | refine grew_drewN ?_ _)) (by omega)).mono ?_
    rintro e w' ⟨v2, y2, rfl, rfl, hown⟩
    obtain ⟨ag, capg, rfl, hlg, hcg⟩ := int_at (ints_own hown (fun z hz => by have := Hvf.out.2 z hz; exact ⟨by omega, by omega⟩) (by omega))
    have Hcg := Lib.hid hcg
    clear hown hcg
    obtain ⟨W0, hW0⟩ : ∃ W0, W0 = ext (ext (w.alloc (.cells #[.int .i64 F.K, .int .i64 F.L.C, .slice a1 F.L.T.length c1, .slice a2 F.kids.length c2] 31)) y) y2 := ⟨_, rfl⟩
    have hg0 : Below w.heap.size w W0 := by rw [hW0]; exact (by repeat (first | exact grew_refl _ | (with_reducible assumption) | refine grew_alloc ?_ _ | refine grew_ext ?_ _ | refine grew_drew ?_ | refine grew_drewN ?_ _))
    have hbo : Old W0 w.heap.size := by rw [hW0]; simp
    have hb0 : W0.cell? ⟨w.heap.size, 0, none⟩ = some (.int .i64 F.K) := by rw [hW0]; go_simp
    have hb1 : W0.cell? ⟨w.heap.size, 1, none⟩ = some (.int .i64 F.L.C) := by rw [hW0]; go_simp
    have hb2 : W0.cell? ⟨w.heap.size, 2, none⟩ = some (.slice a1 F.L.T.length c1) := by rw [hW0]; go_simp
    have hb3 : W0.cell? ⟨w.heap.size, 3, none⟩ = some (.slice a2 F.kids.length c2) := by rw [hW0]; go_simp
    rw [← hW0] at Hcg ⊢
    clear hW0
    go_wp2_with fail
    go_loopw [17] (fun i wr => ∃ (k : Nat) (x : World), k ≤ (vars F).length ∧ i = .int .i64 k ∧ wr = ext W0 x ∧ Hid (∀ i, i < k → farB (valAt vals ((vars F).getD i 0)) = false)) (fun i _ => (vars F).length - (intOf i).toNat)
    case atStart => exact ⟨0, _, by omega, rfl, (ext_of (grew_refl _)).symm, Lib.hid (fun i hi => absurd hi (Nat.not_lt_zero _))⟩
    case round =>
      obtain ⟨k, x, hk, rfl, rfl, hno⟩ := hrel
      by_cases hlt : k < (vars F).length
      · obtain ⟨bg, og, rfl, hbg, hcg, _⟩ := Hcg.out k hlt
        have hvb := Hvf.out.2 ((vars F).getD k 0) (by rw [getD0 hlt]; exact List.getElem_mem hlt)
        have Hhit := Lib.hid (farF_hit (vals := vals) hlt)
        have Hst := Lib.hid (fun v (hv : v = (vars F).getD k 0) (hf : farB (valAt vals v) = false) => none_succ (p := fun i => farB (valAt vals ((vars F).getD i 0))) hno.out (by show farB (valAt vals ((vars F).getD k 0)) = false; rw [← hv]; exact hf))
        obtain ⟨v, hvv⟩ : ∃ v, v = (vars F).getD k 0 := ⟨_, rfl⟩
        rw [← hvv] at hcg hvb Hhit
        have Hvv := Lib.hid hvv
        clear hvv
        obtain ⟨hv1, hv2⟩ := hvb
        by_cases hV : v < vals.length
        · obtain ⟨bv, ov, rfl, hbv, hcv, _⟩ := HcV.out v.toNat (by omega)
          have hx : vals.getD v.toNat 0 = valAt vals v := by simp [valAt, hV]
          have hcv := (hg0.cell (p := ⟨bv, _, none⟩) hbv).trans hcv
          have hbv := old_of_grew hg0 hbv
          rw [hx] at hcv
          clear hx
          generalize hxe : valAt vals v = x1 at hcv Hhit
          have Hx := Lib.hid hxe
          clear hxe
          by_cases hf : x1 < -16777216 ∨ 16777216 < x1
          · have Hf := Lib.hid (fv_far HE.out (Hhit.out (far_yes hf)))
            rcases hf with hf | hf
            all_goals
              go_wp2_with fail
              go_ret2
              exact ⟨by rw [Hf.out.1, Hf.out.2]; rfl, ext_intro (by repeat (first | exact grew_refl _ | (with_reducible assumption) | refine grew_alloc ?_ _ | refine grew_ext ?_ _ | refine grew_drew ?_ | refine grew_drewN ?_ _))⟩
          · have Hn := Lib.hid (Hst.out v Hvv.out (by rw [Hx.out]; exact far_no hf))
            obtain ⟨hf1, hf2⟩ := not_or.1 hf
            clear hf
            go_wp2_with fail
            go_roundw
            case rel => exact ⟨k + 1, _, by omega, by go_num, rfl, Hn⟩
            case measure => simp [intOf]; omega
        · have hx : valAt vals v = 0 := by simp [valAt, hV]
          have Hn := Lib.hid (Hst.out v Hvv.out (by rw [hx]; decide))
          clear hx
          go_wp2_with fail
          go_roundw
          case rel => exact ⟨k + 1, _, by omega, by go_num, rfl, Hn⟩
          case measure => simp [intOf]; omega
      · have hfar : farF vals F = false := farF_none (fun i hi => hno.out i (by omega))
        have Hf := Lib.hid (fv_yes HE.out hfar)
        have Hfar := Lib.hid hfar
        clear hfar hno
        go_wp2_with fail
        refine (Ht.out _ (by repeat (first | exact grew_refl _ | (with_reducible assumption) | refine grew_alloc ?_ _ | refine grew_ext ?_ _ | refine grew_drew ?_ | refine grew_drewN ?_ _)) Hp.out.2.2 Hfar.out).mono ?_
        rintro e w' ⟨rfl, y3, rfl⟩
        go_wp2_with fail
        go_ret2
        exact ⟨by rw [Hf.out.1, Hf.out.2]; rfl, ext_intro (by repeat (first | exact grew_refl _ | (with_reducible assumption) | refine grew_alloc ?_ _ | refine grew_ext ?_ _ | refine grew_drew ?_ | refine grew_drewN ?_ _))⟩
  · rw [errV_pos he] at Hc
    have Hf := Lib.hid (fv_err (vals := vals) he)
    have HE := Lib.hid (errV_pos he)
    clear he
    go_enter Try.func12, Try.ntmps12
    go_wp2_with (first | (go_at_call 10; refine (Hc.out _ (by repeat (first | exact grew_refl _ | (with_reducible assumption) | refine grew_alloc ?_ _ | refine grew_ext ?_ _ | refine grew_drew ?_ | refine grew_drewN ?_ _))).mono ?_; rintro e w' ⟨rfl, y, rfl⟩))
    go_ret2
    exact ⟨by rw [Hf.out.1, Hf.out.2, HE.out]; rfl, ext_intro (by repeat (first | exact grew_refl _ | (with_reducible assumption) | refine grew_alloc ?_ _ | refine grew_ext ?_ _ | refine grew_drew ?_ | refine grew_drewN ?_ _))⟩
end Go.Proofs.Ytdieipdbkpcgmaa
