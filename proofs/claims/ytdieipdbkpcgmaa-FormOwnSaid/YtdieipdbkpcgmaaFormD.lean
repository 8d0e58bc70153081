/- Layer 2: sound formulas. -/
import Derived.Test.YtdieipdbkpcgmaaFormC
import Derived.BigGuardPart
namespace Go.Proofs.Ytdieipdbkpcgmaa
set_option linter.unusedSimpArgs false
set_option linter.unusedVariables false
open Go.RowKit

mutual
def fineB : Form → Bool
  | ⟨K, L, ks⟩ =>
    if K = 0 then decide (L.C = 0) && decide (L.T.length = 0) && decide (ks.length = 0)
    else if K = 1 then decide (L.C = 0) && decide (L.T.length = 0) && decide (ks.length = 0)
    else if K = 2 then linOk L && decide (ks.length = 0)
    else if K = 3 then linOk L && decide (ks.length = 0)
    else if K = 4 then decide (L.C = 0) && decide (L.T.length = 0) && decide (ks.length = 1) && fineAll ks
    else if K = 5 then decide (L.C = 0) && decide (L.T.length = 0) && fineAll ks
    else if K = 6 then decide (L.C = 0) && decide (L.T.length = 0) && fineAll ks
    else false
def fineAll : List Form → Bool
  | [] => true
  | k :: ks => fineB k && fineAll ks
end
theorem fineAll_any (ks : List Form) : (!(ks.any fun k => !fineB k)) = fineAll ks := by
  induction ks with
  | nil => rfl
  | cons k ks ih => simp only [List.any_cons, fineAll, ← ih]; cases fineB k <;> simp

def FineSaid (n : Nat) : Prop := ∀ (F : Form) (cs : List Value) (w : World), IsForm w n F cs →
  Calls Try.prog 26 #[.agg cs.toArray] w fun e w' => e = .returned (.bool (fineB F)) ∧ ∃ x, w' = ext w x

theorem fine1_any {n : Nat} (ih : FineSaid n) {F : Form} {cs : List Value} {w : World} (h : IsForm w n F cs) :
    Calls Try.prog 40 #[.agg cs.toArray] w fun e w' => e = .returned (.bool (!fineB F)) ∧ ∃ x, w' = ext w x := by
  have Hc := Lib.hid (fun W g => ih F cs W (h.mono g))
  obtain ⟨a1, c1, a2, c2, rfl⟩ := form_cells h
  go_enter Try.func40, Try.ntmps40
  go_wp2_with fail
  refine (Hc.out _ (by repeat (first | exact grew_refl _ | (with_reducible assumption) | refine grew_alloc ?_ _ | refine grew_ext ?_ _ | refine grew_drew ?_ | refine grew_drewN ?_ _))).mono ?_
  rintro e w' ⟨rfl, y, rfl⟩
  go_wp2_with fail
  go_ret
  exact ⟨rfl, ext_intro (by repeat (first | exact grew_refl _ | (with_reducible assumption) | refine grew_alloc ?_ _ | refine grew_ext ?_ _ | refine grew_drew ?_ | refine grew_drewN ?_ _))⟩
theorem linCheck_yes {L : Lin} {f : FuncId} {args : Array Value} {W : World} (h : linOk L = true) (hc : Calls Try.prog f args W fun e w' => e = .returned (errV (linErr L)) ∧ ∃ x, w' = ext W x) :
    Calls Try.prog f args W fun e w' => e = .returned .nilIface ∧ ∃ x, w' = ext W x := by
  simpa [linErr, h, errV] using hc
theorem linCheck_no {L : Lin} {f : FuncId} {args : Array Value} {W : World} (h : linOk L = false) (hc : Calls Try.prog f args W fun e w' => e = .returned (errV (linErr L)) ∧ ∃ x, w' = ext W x) :
    Calls Try.prog f args W fun e w' => e = .returned (.iface 32 (.int .i64 5)) ∧ ∃ x, w' = ext W x := by
  simpa [linErr, h, errV] using hc

theorem fine1_call : ∀ (x : Value) (w : World), (callFunc 40 #[x]).run Try.prog w = .ok (.enter 40 #[x]) w := fun x w => by kernel_rfl

theorem fineKids_any {n : Nat} (ih : FineSaid n) {kids : List Form} {vK : Value} {W : World} (hk : SliceOf W 4 (IsForm W n) vK kids) :
    Calls Try.prog 37 #[vK, .func (.func 40) #[] #[]] W
      fun e w' => e = .returned (.bool (kids.any fun k => !fineB k)) ∧ ∃ x, w' = ext W x :=
  containsForm_any hk (fun x => #[x]) (fun x => by simp) fine1_call (fun x F cs hF h => fine1_any ih h)

/-! How each way of 'fine' ends. -/
section ends
variable {L : Lin} {ks : List Form} {K : Int}
theorem fz_a (hK : K = 0 ∨ K = 1) (h1 : L.C = 0) (h2 : (L.T.length : Int) = 0) : Ending.returned (.bool ((ks.length : Int) == 0)) = .returned (.bool (fineB ⟨K, L, ks⟩)) := by
  have h2 : L.T.length = 0 := by omega
  have e : ((ks.length : Int) == 0) = decide (ks.length = 0) := by rw [Bool.eq_iff_iff]; simp
  rcases hK with rfl | rfl <;> simp only [fineB, e, h1, h2] <;> simp
theorem fz_b (hK : K = 0 ∨ K = 1 ∨ K = 4 ∨ K = 5 ∨ K = 6) (h2 : ¬ (L.T.length : Int) = 0) : Ending.returned (.bool false) = .returned (.bool (fineB ⟨K, L, ks⟩)) := by
  have h2 : ¬ L.T.length = 0 := by omega
  rcases hK with rfl | rfl | rfl | rfl | rfl <;> simp only [fineB, h2] <;> simp
theorem fz_c (hK : K = 0 ∨ K = 1 ∨ K = 4 ∨ K = 5 ∨ K = 6) (h1 : ¬ L.C = 0) : Ending.returned (.bool false) = .returned (.bool (fineB ⟨K, L, ks⟩)) := by
  rcases hK with rfl | rfl | rfl | rfl | rfl <;> simp only [fineB, h1] <;> simp
theorem fz_d (hK : K = 2 ∨ K = 3) (h : linOk L = true) : Ending.returned (.bool ((ks.length : Int) == 0)) = .returned (.bool (fineB ⟨K, L, ks⟩)) := by
  have e : ((ks.length : Int) == 0) = decide (ks.length = 0) := by rw [Bool.eq_iff_iff]; simp
  rcases hK with rfl | rfl <;> simp only [fineB, e, h] <;> simp
theorem fz_e (hK : K = 2 ∨ K = 3) (h : linOk L = false) : Ending.returned (.bool false) = .returned (.bool (fineB ⟨K, L, ks⟩)) := by
  rcases hK with rfl | rfl <;> simp only [fineB, h] <;> simp
theorem fz_f (hK : K = 5 ∨ K = 6) (h1 : L.C = 0) (h2 : (L.T.length : Int) = 0) : Ending.returned (.bool (!(ks.any fun k => !fineB k))) = .returned (.bool (fineB ⟨K, L, ks⟩)) := by
  have h2 : L.T.length = 0 := by omega
  rw [fineAll_any]
  rcases hK with rfl | rfl <;> simp only [fineB, h1, h2] <;> simp
theorem fz_g (h0 : (ks.length : Int) = 1) (h1 : L.C = 0) (h2 : (L.T.length : Int) = 0) : Ending.returned (.bool (!(ks.any fun k => !fineB k))) = .returned (.bool (fineB ⟨4, L, ks⟩)) := by
  have h2 : L.T.length = 0 := by omega
  have h0 : ks.length = 1 := by omega
  rw [fineAll_any]
  simp only [fineB, h0, h1, h2]; simp
theorem fz_h (h0 : ¬ (ks.length : Int) = 1) : Ending.returned (.bool false) = .returned (.bool (fineB ⟨4, L, ks⟩)) := by
  have h0 : ¬ ks.length = 1 := by omega
  simp only [fineB, h0]; simp
theorem fz_i (hK : K < 0 ∨ 6 < K) : Ending.returned (.bool false) = .returned (.bool (fineB ⟨K, L, ks⟩)) := by
  unfold fineB; rw [if_neg (by omega), if_neg (by omega), if_neg (by omega), if_neg (by omega), if_neg (by omega), if_neg (by omega), if_neg (by omega)]
theorem int_ne_of {n m : Int} (h : (n != m) = true) : ¬ n = m := by simpa using h
theorem int_eq_of {n m : Int} (h : (n != m) = false) : n = m := by simpa using h
end ends

set_option maxHeartbeats 4000000 in
theorem fine_step' (n : Nat) (ih : FineSaid n) : FineSaid (n + 1) := fun F cs w h => by
    have Hk := Lib.hid (fun W kids vK => fineKids_any ih (W := W) (kids := kids) (vK := vK))
    obtain ⟨K, L, ks⟩ := F
    obtain ⟨hK, vT, vK, rfl, hT, hk⟩ := h
    have hkg := Lib.hid (fun W (g : Below w.heap.size w W) => hk.mono g (fun _ _ _ h => IsForm.mono g h))
    have HL := Lib.hid (fun W (g : Below w.heap.size w W) => linCheck_c (hT.mono g))
    obtain ⟨a2, cap2, rfl, hl2, _, _⟩ := hk
    obtain ⟨hC, a1, cap1, rfl, hl1, _, _⟩ := hT
    clear hK hC
    rename_i hx1 hx2 hx3 hx4
    clear hx1 hx2 hx3 hx4
    simp only at *
    rcases (show K = 0 ∨ K = 1 ∨ K = 2 ∨ K = 3 ∨ K = 4 ∨ K = 5 ∨ K = 6 ∨ (K < 0 ∨ 6 < K) by omega) with rfl | rfl | rfl | rfl | rfl | rfl | rfl | hK'
    · go_enter Try.func26, Try.ntmps26
      go_wp2_with fail
      all_goals (go_ret; refine ⟨?_, ext_intro (by repeat (first | exact grew_refl _ | (with_reducible assumption) | refine grew_alloc ?_ _ | refine grew_ext ?_ _ | refine grew_drew ?_ | refine grew_drewN ?_ _))⟩; show Ending.returned (.bool _) = _; first | (with_reducible exact fz_a (by decide) (by with_reducible assumption) (by with_reducible assumption)) | (with_reducible exact fz_b (by decide) (by with_reducible assumption)) | (with_reducible exact fz_c (by decide) (by with_reducible assumption)))
    · go_enter Try.func26, Try.ntmps26
      go_wp2_with fail
      all_goals (go_ret; refine ⟨?_, ext_intro (by repeat (first | exact grew_refl _ | (with_reducible assumption) | refine grew_alloc ?_ _ | refine grew_ext ?_ _ | refine grew_drew ?_ | refine grew_drewN ?_ _))⟩; show Ending.returned (.bool _) = _; first | (with_reducible exact fz_a (by decide) (by with_reducible assumption) (by with_reducible assumption)) | (with_reducible exact fz_b (by decide) (by with_reducible assumption)) | (with_reducible exact fz_c (by decide) (by with_reducible assumption)))
    · rcases Bool.eq_false_or_eq_true (linOk L) with hlin | hlin
      · have HL' := Lib.hid (fun W g c hc => linCheck_yes hlin (HL.out W g c hc)); clear HL
        have Hlin := Lib.hid hlin; clear hlin
        go_enter Try.func26, Try.ntmps26
        go_wp2_with (first | (go_at_call 39; refine (HL'.out _ (by repeat (first | exact grew_refl _ | (with_reducible assumption) | refine grew_alloc ?_ _ | refine grew_ext ?_ _ | refine grew_drew ?_ | refine grew_drewN ?_ _)) _ (by first | rfl | omega)).mono ?_; rintro e w' ⟨rfl, y, rfl⟩))
        all_goals (go_ret; refine ⟨?_, ext_intro (by repeat (first | exact grew_refl _ | (with_reducible assumption) | refine grew_alloc ?_ _ | refine grew_ext ?_ _ | refine grew_drew ?_ | refine grew_drewN ?_ _))⟩; show Ending.returned (.bool _) = _; first | (with_reducible exact fz_d (by decide) Hlin.out))
      · have HL' := Lib.hid (fun W g c hc => linCheck_no hlin (HL.out W g c hc)); clear HL
        have Hlin := Lib.hid hlin; clear hlin
        go_enter Try.func26, Try.ntmps26
        go_wp2_with (first | (go_at_call 39; refine (HL'.out _ (by repeat (first | exact grew_refl _ | (with_reducible assumption) | refine grew_alloc ?_ _ | refine grew_ext ?_ _ | refine grew_drew ?_ | refine grew_drewN ?_ _)) _ (by first | rfl | omega)).mono ?_; rintro e w' ⟨rfl, y, rfl⟩))
        all_goals (go_ret; refine ⟨?_, ext_intro (by repeat (first | exact grew_refl _ | (with_reducible assumption) | refine grew_alloc ?_ _ | refine grew_ext ?_ _ | refine grew_drew ?_ | refine grew_drewN ?_ _))⟩; show Ending.returned (.bool _) = _; first | (with_reducible exact fz_e (by decide) Hlin.out))
    · rcases Bool.eq_false_or_eq_true (linOk L) with hlin | hlin
      · have HL' := Lib.hid (fun W g c hc => linCheck_yes hlin (HL.out W g c hc)); clear HL
        have Hlin := Lib.hid hlin; clear hlin
        go_enter Try.func26, Try.ntmps26
        go_wp2_with (first | (go_at_call 39; refine (HL'.out _ (by repeat (first | exact grew_refl _ | (with_reducible assumption) | refine grew_alloc ?_ _ | refine grew_ext ?_ _ | refine grew_drew ?_ | refine grew_drewN ?_ _)) _ (by first | rfl | omega)).mono ?_; rintro e w' ⟨rfl, y, rfl⟩))
        all_goals (go_ret; refine ⟨?_, ext_intro (by repeat (first | exact grew_refl _ | (with_reducible assumption) | refine grew_alloc ?_ _ | refine grew_ext ?_ _ | refine grew_drew ?_ | refine grew_drewN ?_ _))⟩; show Ending.returned (.bool _) = _; first | (with_reducible exact fz_d (by decide) Hlin.out))
      · have HL' := Lib.hid (fun W g c hc => linCheck_no hlin (HL.out W g c hc)); clear HL
        have Hlin := Lib.hid hlin; clear hlin
        go_enter Try.func26, Try.ntmps26
        go_wp2_with (first | (go_at_call 39; refine (HL'.out _ (by repeat (first | exact grew_refl _ | (with_reducible assumption) | refine grew_alloc ?_ _ | refine grew_ext ?_ _ | refine grew_drew ?_ | refine grew_drewN ?_ _)) _ (by first | rfl | omega)).mono ?_; rintro e w' ⟨rfl, y, rfl⟩))
        all_goals (go_ret; refine ⟨?_, ext_intro (by repeat (first | exact grew_refl _ | (with_reducible assumption) | refine grew_alloc ?_ _ | refine grew_ext ?_ _ | refine grew_drew ?_ | refine grew_drewN ?_ _))⟩; show Ending.returned (.bool _) = _; first | (with_reducible exact fz_e (by decide) Hlin.out))
    · go_enter Try.func26, Try.ntmps26
      go_wp2_with (first | (go_at_call 37; refine (Hk.out _ _ _ (hkg.out _ (by repeat (first | exact grew_refl _ | (with_reducible assumption) | refine grew_alloc ?_ _ | refine grew_ext ?_ _ | refine grew_drew ?_ | refine grew_drewN ?_ _)))).mono ?_; rintro e w' ⟨rfl, y, rfl⟩))
      all_goals (go_ret; refine ⟨?_, ext_intro (by repeat (first | exact grew_refl _ | (with_reducible assumption) | refine grew_alloc ?_ _ | refine grew_ext ?_ _ | refine grew_drew ?_ | refine grew_drewN ?_ _))⟩; show Ending.returned (.bool _) = _; first | (with_reducible exact fz_g (int_eq_of (n := (ks.length : Int)) (m := 1) (by with_reducible assumption)) (by with_reducible assumption) (by with_reducible assumption)) | (with_reducible exact fz_b (by decide) (by with_reducible assumption)) | (with_reducible exact fz_c (by decide) (by with_reducible assumption)) | (with_reducible exact fz_h (int_ne_of (n := (ks.length : Int)) (m := 1) (by with_reducible assumption))))
    · go_enter Try.func26, Try.ntmps26
      go_wp2_with (first | (go_at_call 37; refine (Hk.out _ _ _ (hkg.out _ (by repeat (first | exact grew_refl _ | (with_reducible assumption) | refine grew_alloc ?_ _ | refine grew_ext ?_ _ | refine grew_drew ?_ | refine grew_drewN ?_ _)))).mono ?_; rintro e w' ⟨rfl, y, rfl⟩))
      all_goals (go_ret; refine ⟨?_, ext_intro (by repeat (first | exact grew_refl _ | (with_reducible assumption) | refine grew_alloc ?_ _ | refine grew_ext ?_ _ | refine grew_drew ?_ | refine grew_drewN ?_ _))⟩; show Ending.returned (.bool _) = _; first | (with_reducible exact fz_f (by decide) (by with_reducible assumption) (by with_reducible assumption)) | (with_reducible exact fz_b (by decide) (by with_reducible assumption)) | (with_reducible exact fz_c (by decide) (by with_reducible assumption)))
    · go_enter Try.func26, Try.ntmps26
      go_wp2_with (first | (go_at_call 37; refine (Hk.out _ _ _ (hkg.out _ (by repeat (first | exact grew_refl _ | (with_reducible assumption) | refine grew_alloc ?_ _ | refine grew_ext ?_ _ | refine grew_drew ?_ | refine grew_drewN ?_ _)))).mono ?_; rintro e w' ⟨rfl, y, rfl⟩))
      all_goals (go_ret; refine ⟨?_, ext_intro (by repeat (first | exact grew_refl _ | (with_reducible assumption) | refine grew_alloc ?_ _ | refine grew_ext ?_ _ | refine grew_drew ?_ | refine grew_drewN ?_ _))⟩; show Ending.returned (.bool _) = _; first | (with_reducible exact fz_f (by decide) (by with_reducible assumption) (by with_reducible assumption)) | (with_reducible exact fz_b (by decide) (by with_reducible assumption)) | (with_reducible exact fz_c (by decide) (by with_reducible assumption)))
    · have HK := Lib.hid hK'
      go_enter Try.func26, Try.ntmps26
      go_wp2_with fail
      all_goals (go_ret; refine ⟨?_, ext_intro (by repeat (first | exact grew_refl _ | (with_reducible assumption) | refine grew_alloc ?_ _ | refine grew_ext ?_ _ | refine grew_drew ?_ | refine grew_drewN ?_ _))⟩; show Ending.returned (.bool _) = _; first | (with_reducible exact fz_i HK.out))

theorem fine_any : ∀ n : Nat, FineSaid n
  | 0 => fun _ _ _ h => h.elim
  | n + 1 => fine_step' n (fine_any n)
end Go.Proofs.Ytdieipdbkpcgmaa
