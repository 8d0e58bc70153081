/- Layer 2: the value of a sound formula. -/
import Derived.Test.YtdieipdbkpcgmaaFormE
import Derived.Test.YtdieipdbkpcgmaaLinB
namespace Go.Proofs.Ytdieipdbkpcgmaa
set_option linter.unusedSimpArgs false
set_option linter.unusedVariables false
open Go.RowKit

mutual
def truth (vals : List Int) : Form → Bool
  | ⟨K, L, ks⟩ =>
    if K = 0 then true
    else if K = 2 then decide (linVal L vals ≤ 0)
    else if K = 3 then decide (linVal L vals = 0)
    else if K = 4 then !truthAll vals ks
    else if K = 5 then truthAll vals ks
    else if K = 6 then truthAny vals ks
    else false
def truthAll (vals : List Int) : List Form → Bool
  | [] => true
  | k :: ks => truth vals k && truthAll vals ks
def truthAny (vals : List Int) : List Form → Bool
  | [] => false
  | k :: ks => truth vals k || truthAny vals ks
end
theorem truthAll_any (vals : List Int) (ks : List Form) : (!(ks.any fun k => !truth vals k)) = truthAll vals ks := by
  induction ks with
  | nil => rfl
  | cons k ks ih => simp only [List.any_cons, truthAll, ← ih]; cases truth vals k <;> simp
theorem truthAny_any (vals : List Int) (ks : List Form) : (ks.any fun k => truth vals k) = truthAny vals ks := by
  induction ks with
  | nil => rfl
  | cons k ks ih => simp only [List.any_cons, truthAny, ← ih]

/-- Does one of the variables have a value that is too great? -/
def farF (vals : List Int) (F : Form) : Bool := (vars F).any fun v => farB (valAt vals v)
theorem mem_vars {F : Form} {ks : List Form} (h : F ∈ ks) : ∀ v ∈ vars F, v ∈ varss ks := by
  induction ks with
  | nil => cases h
  | cons k ks ih =>
    intro v hv
    simp only [varss, List.mem_append]
    rcases List.mem_cons.1 h with rfl | h
    · exact .inl hv
    · exact .inr (ih h v hv)
theorem farF_kid {vals : List Int} {F G : Form} (h : farF vals F = false) (hG : G ∈ F.kids) : farF vals G = false := by
  simp only [farF, List.any_eq_false] at h ⊢
  intro v hv
  exact h v (by rw [vars_eq]; exact List.mem_append.2 (.inr (mem_vars hG v hv)))
theorem farF_lin {vals : List Int} {F : Form} (h : farF vals F = false) : anyFar vals F.L.T = false := by
  simp only [farF, anyFar, List.any_eq_false] at h ⊢
  intro m hm
  exact h m.V (by rw [vars_eq]; exact List.mem_append.2 (.inl (List.mem_map.2 ⟨m, hm, rfl⟩)))
theorem fineAll_mem {ks : List Form} (h : fineAll ks = true) {G : Form} (hG : G ∈ ks) : fineB G = true := by
  induction ks with
  | nil => cases hG
  | cons k ks ih =>
    simp only [fineAll, Bool.and_eq_true] at h
    rcases List.mem_cons.1 hG with rfl | hG
    · exact h.1
    · exact ih h.2 hG
theorem fine_kids {F : Form} (h : fineB F = true) {G : Form} (hG : G ∈ F.kids) : fineB G = true := by
  obtain ⟨K, L, ks⟩ := F
  simp only at hG
  have hne : ks.length ≠ 0 := fun h0 => by rw [List.eq_nil_of_length_eq_zero h0] at hG; cases hG
  simp only [fineB] at h
  split at h
  · simp [hne] at h
  split at h
  · simp [hne] at h
  split at h
  · simp [hne] at h
  split at h
  · simp [hne] at h
  split at h
  · simp only [Bool.and_eq_true] at h; exact fineAll_mem h.2 hG
  split at h
  · simp only [Bool.and_eq_true] at h; exact fineAll_mem h.2 hG
  split at h
  · simp only [Bool.and_eq_true] at h; exact fineAll_mem h.2 hG
  · cases h
theorem fine_lin {L : Lin} {ks : List Form} {K : Int} (hK : K = 2 ∨ K = 3) (h : fineB ⟨K, L, ks⟩ = true) : linOk L = true := by
  rcases hK with rfl | rfl <;> · simp [fineB] at h; exact h.1
theorem fine_not {L : Lin} {ks : List Form} (h : fineB ⟨4, L, ks⟩ = true) : ks.length = 1 := by simp [fineB] at h; exact h.1.2

def TruthSaid (n : Nat) : Prop := ∀ (F : Form) (cs : List Value) (vV : Value) (vals : List Int) (w : World), IsForm w n F cs → IsInts w vV vals → fineB F = true → farF vals F = false →
  Calls Try.prog 28 #[.agg cs.toArray, vV] w fun e w' => e = .returned (.bool (truth vals F)) ∧ ∃ x, w' = ext w x

theorem value1_any {n : Nat} (ih : TruthSaid n) {F : Form} {cs : List Value} {vV : Value} {vals : List Int} {w : World} {bb : Nat} (h : IsForm w n F cs) (hv : IsInts w vV vals) (h1 : fineB F = true) (h2 : farF vals F = false)
    (hc : w.cell? ⟨bb, 0, none⟩ = some vV) (ho : Old w bb) :
    Calls Try.prog 41 #[.agg cs.toArray, .pointer (some ⟨bb, 0, none⟩)] w fun e w' => e = .returned (.bool (!truth vals F)) ∧ ∃ x, w' = ext w x := by
  have Hc := Lib.hid (fun W g => ih F cs vV vals W (h.mono g) (hv.mono g) h1 h2)
  obtain ⟨a1, c1, a2, c2, rfl⟩ := form_cells h
  obtain ⟨aV, capV, rfl, hlV, _⟩ := int_at hv
  clear h1 h2
  go_enter Try.func41, Try.ntmps41
  go_wp2_with fail
  refine (Hc.out _ (by repeat (first | exact grew_refl _ | (with_reducible assumption) | refine grew_alloc ?_ _ | refine grew_ext ?_ _ | refine grew_drew ?_ | refine grew_drewN ?_ _))).mono ?_
  rintro e w' ⟨rfl, y, rfl⟩
  go_wp2_with fail
  go_ret
  exact ⟨rfl, ext_intro (by repeat (first | exact grew_refl _ | (with_reducible assumption) | refine grew_alloc ?_ _ | refine grew_ext ?_ _ | refine grew_drew ?_ | refine grew_drewN ?_ _))⟩
theorem value2_any {n : Nat} (ih : TruthSaid n) {F : Form} {cs : List Value} {vV : Value} {vals : List Int} {w : World} {bb : Nat} (h : IsForm w n F cs) (hv : IsInts w vV vals) (h1 : fineB F = true) (h2 : farF vals F = false)
    (hc : w.cell? ⟨bb, 0, none⟩ = some vV) (ho : Old w bb) :
    Calls Try.prog 42 #[.agg cs.toArray, .pointer (some ⟨bb, 0, none⟩)] w fun e w' => e = .returned (.bool (truth vals F)) ∧ ∃ x, w' = ext w x := by
  have Hc := Lib.hid (fun W g => ih F cs vV vals W (h.mono g) (hv.mono g) h1 h2)
  obtain ⟨a1, c1, a2, c2, rfl⟩ := form_cells h
  obtain ⟨aV, capV, rfl, hlV, _⟩ := int_at hv
  clear h1 h2
  go_enter Try.func42, Try.ntmps42
  go_wp2_with fail
  refine (Hc.out _ (by repeat (first | exact grew_refl _ | (with_reducible assumption) | refine grew_alloc ?_ _ | refine grew_ext ?_ _ | refine grew_drew ?_ | refine grew_drewN ?_ _))).mono ?_
  rintro e w' ⟨rfl, y, rfl⟩
  go_wp2_with fail
  go_ret
  exact ⟨rfl, ext_intro (by repeat (first | exact grew_refl _ | (with_reducible assumption) | refine grew_alloc ?_ _ | refine grew_ext ?_ _ | refine grew_drew ?_ | refine grew_drewN ?_ _))⟩
theorem value1_call {a : Value} : ∀ (x : Value) (w : World), (callFunc 41 #[x, a]).run Try.prog w = .ok (.enter 41 #[x, a]) w := fun x w => by kernel_rfl
theorem value2_call {a : Value} : ∀ (x : Value) (w : World), (callFunc 42 #[x, a]).run Try.prog w = .ok (.enter 42 #[x, a]) w := fun x w => by kernel_rfl

theorem valueKids1 {n : Nat} (ih : TruthSaid n) {F : Form} {vK vV : Value} {vals : List Int} {W : World} {bb : Nat} (hk : SliceOf W 4 (IsForm W n) vK F.kids) (hv : IsInts W vV vals) (h1 : fineB F = true) (h2 : farF vals F = false)
    (hc : W.cell? ⟨bb, 0, none⟩ = some vV) (ho : Old W bb) :
    Calls Try.prog 37 #[vK, .func (.func 41) #[] #[.pointer (some ⟨bb, 0, none⟩)]] W
      fun e w' => e = .returned (.bool (F.kids.any fun k => !truth vals k)) ∧ ∃ x, w' = ext W x :=
  containsForm_any hk (fun x => #[x, .pointer (some ⟨bb, 0, none⟩)]) (fun x => by simp) value1_call
    (fun x G cs hG h => value1_any ih h (hv.mono (below_ext W x)) (fine_kids h1 hG) (farF_kid h2 hG) ((cell_ext W x bb 0 ho).trans hc) (by simp [ho]))
theorem valueKids2 {n : Nat} (ih : TruthSaid n) {F : Form} {vK vV : Value} {vals : List Int} {W : World} {bb : Nat} (hk : SliceOf W 4 (IsForm W n) vK F.kids) (hv : IsInts W vV vals) (h1 : fineB F = true) (h2 : farF vals F = false)
    (hc : W.cell? ⟨bb, 0, none⟩ = some vV) (ho : Old W bb) :
    Calls Try.prog 37 #[vK, .func (.func 42) #[] #[.pointer (some ⟨bb, 0, none⟩)]] W
      fun e w' => e = .returned (.bool (F.kids.any fun k => truth vals k)) ∧ ∃ x, w' = ext W x :=
  containsForm_any hk (fun x => #[x, .pointer (some ⟨bb, 0, none⟩)]) (fun x => by simp) value2_call
    (fun x G cs hG h => value2_any ih h (hv.mono (below_ext W x)) (fine_kids h1 hG) (farF_kid h2 hG) ((cell_ext W x bb 0 ho).trans hc) (by simp [ho]))

section ends
variable {L : Lin} {ks : List Form} {K : Int} {vals : List Int}
theorem tr_0 : Ending.returned (.bool true) = .returned (.bool (truth vals ⟨0, L, ks⟩)) := by simp [truth]
theorem tr_1 : Ending.returned (.bool false) = .returned (.bool (truth vals ⟨1, L, ks⟩)) := by simp [truth]
theorem tr_5 : Ending.returned (.bool (!(ks.any fun k => !truth vals k))) = .returned (.bool (truth vals ⟨5, L, ks⟩)) := by rw [truthAll_any]; simp [truth]
theorem tr_6 : Ending.returned (.bool (ks.any fun k => truth vals k)) = .returned (.bool (truth vals ⟨6, L, ks⟩)) := by rw [truthAny_any]; simp [truth]
theorem tr_o (hK : K < 0 ∨ 6 < K) : Ending.returned (.bool false) = .returned (.bool (truth vals ⟨K, L, ks⟩)) := by
  unfold truth; rw [if_neg (by omega), if_neg (by omega), if_neg (by omega), if_neg (by omega), if_neg (by omega), if_neg (by omega)]
theorem tr_4 (h : ks.length = 1) (h0 : 0 < ks.length) : Ending.returned (.bool (!truth vals ks[0])) = .returned (.bool (truth vals ⟨4, L, ks⟩)) := by
  match ks, h with
  | [k], _ => simp [truth, truthAll]
theorem tr_2y {v : Int} (hv : v = linVal L vals) (h : v ≤ 0) : truth vals ⟨2, L, ks⟩ = true := by subst hv; simp [truth]; exact h
theorem tr_2n {v : Int} (hv : v = linVal L vals) (h : 0 < v) : truth vals ⟨2, L, ks⟩ = false := by subst hv; simp [truth]; exact h
theorem tr_3y {v : Int} (hv : v = linVal L vals) (h : v = 0) : truth vals ⟨3, L, ks⟩ = true := by subst hv; simp [truth, h]
theorem tr_3n {v : Int} (hv : v = linVal L vals) (h : ¬ v = 0) : truth vals ⟨3, L, ks⟩ = false := by subst hv; simp [truth, h]
end ends

theorem valPost_yes {L : Lin} {vals : List Int} {f : FuncId} {args : Array Value} {W : World} (h : linVal L vals = L.C + dot vals L.T ∧ linValErr L vals = 0) (hc : Calls Try.prog f args W (ValPost L vals W)) :
    Calls Try.prog f args W fun e w' => e = .returned (.tuple #[.int .i64 (linVal L vals), .nilIface]) ∧ ∃ x, w' = ext W x := by
  unfold ValPost at hc
  rw [h.2, errV_zero] at hc
  exact hc

set_option maxRecDepth 100000 in
set_option maxHeartbeats 8000000 in
theorem truth_step (n : Nat) (ih : TruthSaid n) : TruthSaid (n + 1) := fun F cs vV vals w h hv h1 h2 => by
    obtain ⟨K, L, ks⟩ := F
    have Hk1 := Lib.hid (fun W vK bb hk hv => valueKids1 ih (F := ⟨K, L, ks⟩) (W := W) (vK := vK) (vV := vV) (vals := vals) (bb := bb) hk hv h1 h2)
    have Hk2 := Lib.hid (fun W vK bb hk hv => valueKids2 ih (F := ⟨K, L, ks⟩) (W := W) (vK := vK) (vV := vV) (vals := vals) (bb := bb) hk hv h1 h2)
    obtain ⟨hK, vT, vK, rfl, hT, hk⟩ := h
    have hkg := Lib.hid (fun W (g : Below w.heap.size w W) => hk.mono g (fun _ _ _ h => IsForm.mono g h))
    have hvg := Lib.hid (fun W (g : Below w.heap.size w W) => hv.mono g)
    have HL := Lib.hid (fun W (g : Below w.heap.size w W) => linValue_any (hT.mono g) (hv.mono g))
    have HF := Lib.hid h1
    have HR := Lib.hid h2
    have Hih := Lib.hid ih
    obtain ⟨a2, cap2, rfl, hl2, _, hc⟩ := hk
    obtain ⟨hC, a1, cap1, rfl, hl1, _, hcT⟩ := hT
    obtain ⟨aV, capV, rfl, hlV, _⟩ := int_at hv
    simp only at *
    have Hc := Lib.hid hc
    clear hc hcT hK hC h1 h2 hv
    rcases (show K = 0 ∨ K = 1 ∨ K = 2 ∨ K = 3 ∨ K = 4 ∨ K = 5 ∨ K = 6 ∨ (K < 0 ∨ 6 < K) by omega) with rfl | rfl | rfl | rfl | rfl | rfl | rfl | hK'
    · go_enter Try.func28, Try.ntmps28
      go_wp2_with fail
      all_goals (go_ret; refine ⟨?_, ext_intro (by repeat (first | exact grew_refl _ | (with_reducible assumption) | refine grew_alloc ?_ _ | refine grew_ext ?_ _ | refine grew_drew ?_ | refine grew_drewN ?_ _))⟩; show Ending.returned (.bool _) = _; first | (with_reducible exact tr_0))
    · go_enter Try.func28, Try.ntmps28
      go_wp2_with fail
      all_goals (go_ret; refine ⟨?_, ext_intro (by repeat (first | exact grew_refl _ | (with_reducible assumption) | refine grew_alloc ?_ _ | refine grew_ext ?_ _ | refine grew_drew ?_ | refine grew_drewN ?_ _))⟩; show Ending.returned (.bool _) = _; first | (with_reducible exact tr_1))
    · have hL0 := linVal_yes (fine_lin (by decide) HF.out) (farF_lin HR.out)
      have HL0 := Lib.hid (fun W (g : Below w.heap.size w W) c hc => valPost_yes hL0 (HL.out W g c hc))
      obtain ⟨v, hv⟩ : ∃ v, v = linVal L vals := ⟨_, rfl⟩
      rw [← hv] at HL0
      have Hv := Lib.hid hv
      clear hL0 hv
      rcases (show v < 0 ∨ v = 0 ∨ 0 < v by omega) with hv | hv | hv
      · have He := Lib.hid (show truth vals ⟨2, L, ks⟩ = true from tr_2y Hv.out (by omega))
        have hvb : (v == 0) = false := by simp; omega
        go_enter Try.func28, Try.ntmps28
        go_wp2_with fail
        refine (HL0.out _ (by repeat (first | exact grew_refl _ | (with_reducible assumption) | refine grew_alloc ?_ _ | refine grew_ext ?_ _ | refine grew_drew ?_ | refine grew_drewN ?_ _)) _ rfl).mono ?_
        rintro e w' ⟨rfl, y, rfl⟩
        go_wp2_with fail
        all_goals (go_ret; exact ⟨by rw [He.out]; rfl, ext_intro (by repeat (first | exact grew_refl _ | (with_reducible assumption) | refine grew_alloc ?_ _ | refine grew_ext ?_ _ | refine grew_drew ?_ | refine grew_drewN ?_ _))⟩)
      · have He := Lib.hid (show truth vals ⟨2, L, ks⟩ = true from tr_2y Hv.out (by omega))
        subst hv
        go_enter Try.func28, Try.ntmps28
        go_wp2_with fail
        refine (HL0.out _ (by repeat (first | exact grew_refl _ | (with_reducible assumption) | refine grew_alloc ?_ _ | refine grew_ext ?_ _ | refine grew_drew ?_ | refine grew_drewN ?_ _)) _ rfl).mono ?_
        rintro e w' ⟨rfl, y, rfl⟩
        go_wp2_with fail
        all_goals (go_ret; exact ⟨by rw [He.out]; rfl, ext_intro (by repeat (first | exact grew_refl _ | (with_reducible assumption) | refine grew_alloc ?_ _ | refine grew_ext ?_ _ | refine grew_drew ?_ | refine grew_drewN ?_ _))⟩)
      · have He := Lib.hid (show truth vals ⟨2, L, ks⟩ = false from tr_2n Hv.out (by omega))
        have hvb : (v == 0) = false := by simp; omega
        have hvc : decide (v < 0) = false := by simp; omega
        go_enter Try.func28, Try.ntmps28
        go_wp2_with fail
        refine (HL0.out _ (by repeat (first | exact grew_refl _ | (with_reducible assumption) | refine grew_alloc ?_ _ | refine grew_ext ?_ _ | refine grew_drew ?_ | refine grew_drewN ?_ _)) _ rfl).mono ?_
        rintro e w' ⟨rfl, y, rfl⟩
        go_wp2_with fail
        all_goals (go_ret; exact ⟨by rw [He.out]; rfl, ext_intro (by repeat (first | exact grew_refl _ | (with_reducible assumption) | refine grew_alloc ?_ _ | refine grew_ext ?_ _ | refine grew_drew ?_ | refine grew_drewN ?_ _))⟩)
    · have hL0 := linVal_yes (fine_lin (by decide) HF.out) (farF_lin HR.out)
      have HL0 := Lib.hid (fun W (g : Below w.heap.size w W) c hc => valPost_yes hL0 (HL.out W g c hc))
      obtain ⟨v, hv⟩ : ∃ v, v = linVal L vals := ⟨_, rfl⟩
      rw [← hv] at HL0
      have Hv := Lib.hid hv
      clear hL0 hv
      rcases (show v < 0 ∨ v = 0 ∨ 0 < v by omega) with hv | hv | hv
      · have He := Lib.hid (show truth vals ⟨3, L, ks⟩ = false from tr_3n Hv.out (by omega))
        have hvb : (v == 0) = false := by simp; omega
        go_enter Try.func28, Try.ntmps28
        go_wp2_with fail
        refine (HL0.out _ (by repeat (first | exact grew_refl _ | (with_reducible assumption) | refine grew_alloc ?_ _ | refine grew_ext ?_ _ | refine grew_drew ?_ | refine grew_drewN ?_ _)) _ rfl).mono ?_
        rintro e w' ⟨rfl, y, rfl⟩
        go_wp2_with fail
        all_goals (go_ret; exact ⟨by rw [He.out]; rfl, ext_intro (by repeat (first | exact grew_refl _ | (with_reducible assumption) | refine grew_alloc ?_ _ | refine grew_ext ?_ _ | refine grew_drew ?_ | refine grew_drewN ?_ _))⟩)
      · have He := Lib.hid (show truth vals ⟨3, L, ks⟩ = true from tr_3y Hv.out (by omega))
        subst hv
        go_enter Try.func28, Try.ntmps28
        go_wp2_with fail
        refine (HL0.out _ (by repeat (first | exact grew_refl _ | (with_reducible assumption) | refine grew_alloc ?_ _ | refine grew_ext ?_ _ | refine grew_drew ?_ | refine grew_drewN ?_ _)) _ rfl).mono ?_
        rintro e w' ⟨rfl, y, rfl⟩
        go_wp2_with fail
        all_goals (go_ret; exact ⟨by rw [He.out]; rfl, ext_intro (by repeat (first | exact grew_refl _ | (with_reducible assumption) | refine grew_alloc ?_ _ | refine grew_ext ?_ _ | refine grew_drew ?_ | refine grew_drewN ?_ _))⟩)
      · have He := Lib.hid (show truth vals ⟨3, L, ks⟩ = false from tr_3n Hv.out (by omega))
        have hvb : (v == 0) = false := by simp; omega
        have hvc : decide (v < 0) = false := by simp; omega
        go_enter Try.func28, Try.ntmps28
        go_wp2_with fail
        refine (HL0.out _ (by repeat (first | exact grew_refl _ | (with_reducible assumption) | refine grew_alloc ?_ _ | refine grew_ext ?_ _ | refine grew_drew ?_ | refine grew_drewN ?_ _)) _ rfl).mono ?_
        rintro e w' ⟨rfl, y, rfl⟩
        go_wp2_with fail
        all_goals (go_ret; exact ⟨by rw [He.out]; rfl, ext_intro (by repeat (first | exact grew_refl _ | (with_reducible assumption) | refine grew_alloc ?_ _ | refine grew_ext ?_ _ | refine grew_drew ?_ | refine grew_drewN ?_ _))⟩)
    · have h1 := fine_not HF.out
      have h0 : 0 < ks.length := by omega
      obtain ⟨bk, ok, cs, rfl, hbk, hF, hsz, hcell⟩ := Hc.out 0 h0
      have hc0 := hcell 0 (by omega)
      have hc1 := hcell 1 (by omega)
      have hc2 := hcell 2 (by omega)
      have hc3 := hcell 3 (by omega)
      have Hend := Lib.hid (tr_4 (vals := vals) (L := L) h1 h0)
      have Hcall := Lib.hid (fun W (g : Below w.heap.size w W) => Hih.out ks[0] cs _ vals W (hF.mono g) (hvg.out W g) (fine_kids HF.out (List.getElem_mem h0)) (farF_kid HR.out (List.getElem_mem h0)))
      generalize ks[0] = Gk at *
      obtain ⟨b1, d1, b2, d2, rfl⟩ := form_cells hF
      simp only [Nat.add_zero, Nat.zero_mul, List.getElem_cons_zero, List.getElem_cons_succ] at hc0 hc1 hc2 hc3
      clear hcell
      have H1 := Lib.hid h1
      clear h1
      go_enter Try.func28, Try.ntmps28
      go_wp2_with fail
      refine wp_region_ext (by kernel_rfl) (by kernel_rfl) ?_
      repeat' (first | go_big_quiet_skip | (go_big_quiet_want; go_big_quiet_op; first | go_big_quiet_on | go_big_quiet_call ((first | (go_at_call 28; exact quiet_ext (Hcall.out _ (by repeat (first | exact grew_refl _ | (with_reducible assumption) | refine grew_alloc ?_ _ | refine grew_ext ?_ _ | refine grew_drew ?_ | refine grew_drewN ?_ _))))))) | (refine wpQuiet_guard_split rfl rfl rfl ?_ ?_ <;> (intro hg; (try simp only [decide_eq_true_eq, decide_eq_false_iff_not, Bool.and_eq_true, Bool.or_eq_true, Bool.and_eq_false_iff, Bool.or_eq_false_iff, Bool.not_eq_true', Bool.not_eq_false', Int.not_lt, Int.not_le] at hg); try simp only [Act.put, List.setIfInBounds_toArray, List.set_cons_succ, List.set_cons_zero])))
      all_goals (refine wpQuiet_nil ?_; intro _ hw'; obtain ⟨xq, hw''⟩ := hw'; subst hw'')
      all_goals go_wp2_with fail
      all_goals (go_ret; refine ⟨?_, ext_intro (by repeat (first | exact grew_refl _ | (with_reducible assumption) | refine grew_alloc ?_ _ | refine grew_ext ?_ _ | refine grew_drew ?_ | refine grew_drewN ?_ _))⟩; show Ending.returned (.bool _) = _; first | (with_reducible exact Hend.out))
    · go_enter Try.func28, Try.ntmps28
      go_wp2_with fail
      refine (Hk1.out _ _ _ (hkg.out _ (by repeat (first | exact grew_refl _ | (with_reducible assumption) | refine grew_alloc ?_ _ | refine grew_ext ?_ _ | refine grew_drew ?_ | refine grew_drewN ?_ _))) (hvg.out _ (by repeat (first | exact grew_refl _ | (with_reducible assumption) | refine grew_alloc ?_ _ | refine grew_ext ?_ _ | refine grew_drew ?_ | refine grew_drewN ?_ _))) (by go_simp) (by simp)).mono ?_
      rintro e w' ⟨rfl, y, rfl⟩
      go_wp2_with fail
      all_goals (go_ret; refine ⟨?_, ext_intro (by repeat (first | exact grew_refl _ | (with_reducible assumption) | refine grew_alloc ?_ _ | refine grew_ext ?_ _ | refine grew_drew ?_ | refine grew_drewN ?_ _))⟩; show Ending.returned (.bool _) = _; first | (with_reducible exact tr_5))
    · go_enter Try.func28, Try.ntmps28
      go_wp2_with fail
      refine (Hk2.out _ _ _ (hkg.out _ (by repeat (first | exact grew_refl _ | (with_reducible assumption) | refine grew_alloc ?_ _ | refine grew_ext ?_ _ | refine grew_drew ?_ | refine grew_drewN ?_ _))) (hvg.out _ (by repeat (first | exact grew_refl _ | (with_reducible assumption) | refine grew_alloc ?_ _ | refine grew_ext ?_ _ | refine grew_drew ?_ | refine grew_drewN ?_ _))) (by go_simp) (by simp)).mono ?_
      rintro e w' ⟨rfl, y, rfl⟩
      go_wp2_with fail
      all_goals (go_ret; refine ⟨?_, ext_intro (by repeat (first | exact grew_refl _ | (with_reducible assumption) | refine grew_alloc ?_ _ | refine grew_ext ?_ _ | refine grew_drew ?_ | refine grew_drewN ?_ _))⟩; show Ending.returned (.bool _) = _; first | (with_reducible exact tr_6))
    · have HK := Lib.hid hK'
      go_enter Try.func28, Try.ntmps28
      go_wp2_with fail
      all_goals (go_ret; refine ⟨?_, ext_intro (by repeat (first | exact grew_refl _ | (with_reducible assumption) | refine grew_alloc ?_ _ | refine grew_ext ?_ _ | refine grew_drew ?_ | refine grew_drewN ?_ _))⟩; show Ending.returned (.bool _) = _; first | (with_reducible exact tr_o HK.out))

theorem truth_any : ∀ n : Nat, TruthSaid n
  | 0 => fun _ _ _ _ _ h => h.elim
  | n + 1 => truth_step n (truth_any n)
end Go.Proofs.Ytdieipdbkpcgmaa
