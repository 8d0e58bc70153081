/- The document's answer for layer 2: sound formulas. -/
import Derived.Test.YtdieipdbkpcgmaaRefB
import Derived.BigGuardPart
import Derived.Deep.DeepCutAuto
import Derived.Deep.CutBlock
namespace Go.Proofs.Ytdieipdbkpcgmaa
set_option linter.unusedSimpArgs false
set_option linter.unusedVariables false
open Go.RowKit

def noneB (L : Lin) : Bool := (L.C == 0) && ((L.T.length : Int) == 0)
def okHead (K : Int) (L : Lin) (ks : List Form) : Bool :=
  if K = 0 ∨ K = 1 then noneB L && ((ks.length : Int) == 0)
  else if K = 2 ∨ K = 3 then ((ks.length : Int) == 0) && linOk L
  else if K = 4 then noneB L && ((ks.length : Int) == 1)
  else if K = 5 ∨ K = 6 then noneB L
  else false
theorem fine_head (F : Form) : fineB F = (okHead F.K F.L F.kids && fineAll F.kids) := by
  obtain ⟨K, L, ks⟩ := F
  have e (n : Nat) : ((n : Int) == 0) = decide (n = 0) := by rw [Bool.eq_iff_iff]; simp
  have e1 (n : Nat) : ((n : Int) == 1) = decide (n = 1) := by rw [Bool.eq_iff_iff]; simp; omega
  have e2 : (L.C == 0) = decide (L.C = 0) := by rw [Bool.eq_iff_iff]; simp
  have nil : ks.length = 0 → fineAll ks = true := fun h => by rw [List.eq_nil_of_length_eq_zero h]; rfl
  simp only [fineB, okHead, noneB, e, e1, e2]
  by_cases h0 : K = 0
  · subst h0; by_cases h : ks.length = 0 <;> simp [h]; rw [nil h]; simp
  by_cases h1 : K = 1
  · subst h1; by_cases h : ks.length = 0 <;> simp [h]; rw [nil h]; simp
  by_cases h2 : K = 2
  · subst h2; by_cases h : ks.length = 0 <;> simp [h]; rw [nil h]; simp
  by_cases h3 : K = 3
  · subst h3; by_cases h : ks.length = 0 <;> simp [h]; rw [nil h]; simp
  by_cases h4 : K = 4
  · subst h4; simp [Bool.and_assoc]
  by_cases h5 : K = 5
  · subst h5; simp [Bool.and_assoc]
  by_cases h6 : K = 6
  · subst h6; simp [Bool.and_assoc]
  simp [h0, h1, h2, h3, h4, h5, h6]

section ends
variable {L : Lin} {ks : List Form} {K : Int}
theorem oh_a (hK : K = 0 ∨ K = 1) (h : noneB L = true) : okHead K L ks = ((ks.length : Int) == 0) := by
  rcases hK with rfl | rfl <;> simp [okHead, h]
theorem oh_b (hK : K = 0 ∨ K = 1 ∨ K = 4 ∨ K = 5 ∨ K = 6) (h : noneB L = false) : okHead K L ks = false := by
  rcases hK with rfl | rfl | rfl | rfl | rfl <;> simp [okHead, h]
theorem oh_d (hK : K = 2 ∨ K = 3) (h : ((ks.length : Int) == 0) = true) : okHead K L ks = linOk L := by
  rcases hK with rfl | rfl <;> simp only [okHead, h] <;> simp
theorem oh_e (hK : K = 2 ∨ K = 3) (e : ((ks.length : Int) == 0) = false) : okHead K L ks = false := by
  rcases hK with rfl | rfl <;> simp [okHead, e]
theorem oh_f (h : noneB L = true) : okHead 4 L ks = ((ks.length : Int) == 1) := by simp [okHead, h]
theorem oh_g (hK : K = 5 ∨ K = 6) (h : noneB L = true) : okHead K L ks = true := by
  rcases hK with rfl | rfl <;> simp [okHead, h]
theorem oh_i (hK : K < 0 ∨ 6 < K) : okHead K L ks = false := by
  unfold okHead; rw [if_neg (by omega), if_neg (by omega), if_neg (by omega), if_neg (by omega)]
end ends

theorem fineAll_take_succ {ks : List Form} {k : Nat} (h : k < ks.length) : fineAll (ks.take (k + 1)) = (fineAll (ks.take k) && fineB ks[k]) := by
  induction ks generalizing k with
  | nil => simp at h
  | cons x ks ih =>
    cases k with
    | zero => simp [fineAll]
    | succ k => simp only [List.take_succ_cons, fineAll, List.getElem_cons_succ]; rw [ih (by simpa using h), Bool.and_assoc]
theorem fineAll_no {ks : List Form} {k : Nat} (h : fineAll (ks.take k) = false) : fineAll ks = false := by
  induction ks generalizing k with
  | nil => simp [fineAll] at h
  | cons x ks ih =>
    cases k with
    | zero => simp [fineAll] at h
    | succ k =>
      simp only [List.take_succ_cons, fineAll, Bool.and_eq_false_iff] at h ⊢
      exact h.imp id ih

def RFineSaid (n : Nat) : Prop := ∀ (F : Form) (cs : List Value) (w : World), IsForm w n F cs →
  Calls Try.prog 32 #[.agg cs.toArray] w fun e w' => e = .returned (.bool (fineB F)) ∧ ∃ x, w' = ext w x

theorem fine_stop {K : Int} {L : Lin} {ks : List Form} {k : Nat} (h : false = (okHead K L ks && fineAll (ks.take k))) : false = fineB ⟨K, L, ks⟩ := by
  rw [fine_head]
  rcases Bool.and_eq_false_iff.1 h.symm with h | h
  · simp [h]
  · simp [fineAll_no h]
theorem fine_step {K : Int} {L : Lin} {ks : List Form} {k : Nat} (hlt : k < ks.length) (h : true = (okHead K L ks && fineAll (ks.take k))) : fineB ks[k] = (okHead K L ks && fineAll (ks.take (k + 1))) := by
  rw [fineAll_take_succ hlt, ← Bool.and_assoc, ← h]; simp
theorem fine_end {K : Int} {L : Lin} {ks : List Form} {t : Bool} (h : t = (okHead K L ks && fineAll (ks.take ks.length))) : t = fineB ⟨K, L, ks⟩ := by
  rw [List.take_length] at h; rw [fine_head]; exact h

set_option maxRecDepth 100000 in
set_option maxHeartbeats 8000000 in
theorem rFine_step (n : Nat) (ih : RFineSaid n) : RFineSaid (n + 1) := fun F cs w h => by
    have Hih := Lib.hid ih
    obtain ⟨K, L, ks⟩ := F
    obtain ⟨hK, vT, vK, rfl, hT, hk⟩ := h
    have HL := Lib.hid (fun W (g : Below w.heap.size w W) => rLinCheck_c (hT.mono g))
    obtain ⟨a2, cap2, rfl, hl2, _, hc⟩ := hk
    obtain ⟨hC, a1, cap1, rfl, hl1, _, hcT⟩ := hT
    simp only at *
    have Hc := Lib.hid hc
    clear hc hcT hK hC
    rcases (show (L.C == 0) = false ∨ ((L.C == 0) = true ∧ ((L.T.length : Int) == 0) = false) ∨ ((L.C == 0) = true ∧ ((L.T.length : Int) == 0) = true) by cases (L.C == 0) <;> cases ((L.T.length : Int) == 0) <;> simp) with hC | ⟨hC, hT⟩ | ⟨hC, hT⟩
    · have Hn := Lib.hid (show noneB L = false by unfold noneB; rw [hC]; rfl)
      go_enter Try.func32, Try.ntmps32
      go_upto_block 0 with fail
      go_cut [5] (fun s wc => ∃ (t : Bool) (x : World), s = .bool t ∧ wc = ext (w.alloc (.cells #[.int .i64 K, .int .i64 L.C, .slice a1 L.T.length cap1, .slice a2 ks.length cap2] 31)) x ∧ Hid (okHead K L ks = t))
      case first =>
        rcases (show K = 0 ∨ K = 1 ∨ K = 2 ∨ K = 3 ∨ K = 4 ∨ K = 5 ∨ K = 6 ∨ (K < 0 ∨ 6 < K) by omega) with rfl | rfl | rfl | rfl | rfl | rfl | rfl | hK'
        · go_wp2_with (first | (go_at_call 46; refine (HL.out _ (by repeat (first | exact grew_refl _ | (with_reducible assumption) | refine grew_alloc ?_ _ | refine grew_ext ?_ _ | refine grew_drew ?_ | refine grew_drewN ?_ _)) _ (by first | rfl | omega)).mono ?_; rintro e w' ⟨rfl, y, rfl⟩))
          all_goals (go_meet; refine ⟨_, _, rfl, (ext_of (by repeat (first | exact grew_refl _ | (with_reducible assumption) | refine grew_alloc ?_ _ | refine grew_ext ?_ _ | refine grew_drew ?_ | refine grew_drewN ?_ _))).symm, Lib.hid ?_⟩; first | (with_reducible exact oh_b (by decide) Hn.out))
        · go_wp2_with (first | (go_at_call 46; refine (HL.out _ (by repeat (first | exact grew_refl _ | (with_reducible assumption) | refine grew_alloc ?_ _ | refine grew_ext ?_ _ | refine grew_drew ?_ | refine grew_drewN ?_ _)) _ (by first | rfl | omega)).mono ?_; rintro e w' ⟨rfl, y, rfl⟩))
          all_goals (go_meet; refine ⟨_, _, rfl, (ext_of (by repeat (first | exact grew_refl _ | (with_reducible assumption) | refine grew_alloc ?_ _ | refine grew_ext ?_ _ | refine grew_drew ?_ | refine grew_drewN ?_ _))).symm, Lib.hid ?_⟩; first | (with_reducible exact oh_b (by decide) Hn.out))
        · rcases Bool.eq_false_or_eq_true ((ks.length : Int) == 0) with hl0 | hl0
          all_goals
            go_wp2_with (first | (go_at_call 46; refine (HL.out _ (by repeat (first | exact grew_refl _ | (with_reducible assumption) | refine grew_alloc ?_ _ | refine grew_ext ?_ _ | refine grew_drew ?_ | refine grew_drewN ?_ _)) _ (by first | rfl | omega)).mono ?_; rintro e w' ⟨rfl, y, rfl⟩))
            all_goals (go_meet; refine ⟨_, _, rfl, (ext_of (by repeat (first | exact grew_refl _ | (with_reducible assumption) | refine grew_alloc ?_ _ | refine grew_ext ?_ _ | refine grew_drew ?_ | refine grew_drewN ?_ _))).symm, Lib.hid ?_⟩; first | (with_reducible exact oh_d (by decide) (by with_reducible assumption)) | (with_reducible exact oh_e (by decide) (by with_reducible assumption)))
        · rcases Bool.eq_false_or_eq_true ((ks.length : Int) == 0) with hl0 | hl0
          all_goals
            go_wp2_with (first | (go_at_call 46; refine (HL.out _ (by repeat (first | exact grew_refl _ | (with_reducible assumption) | refine grew_alloc ?_ _ | refine grew_ext ?_ _ | refine grew_drew ?_ | refine grew_drewN ?_ _)) _ (by first | rfl | omega)).mono ?_; rintro e w' ⟨rfl, y, rfl⟩))
            all_goals (go_meet; refine ⟨_, _, rfl, (ext_of (by repeat (first | exact grew_refl _ | (with_reducible assumption) | refine grew_alloc ?_ _ | refine grew_ext ?_ _ | refine grew_drew ?_ | refine grew_drewN ?_ _))).symm, Lib.hid ?_⟩; first | (with_reducible exact oh_d (by decide) (by with_reducible assumption)) | (with_reducible exact oh_e (by decide) (by with_reducible assumption)))
        · go_wp2_with (first | (go_at_call 46; refine (HL.out _ (by repeat (first | exact grew_refl _ | (with_reducible assumption) | refine grew_alloc ?_ _ | refine grew_ext ?_ _ | refine grew_drew ?_ | refine grew_drewN ?_ _)) _ (by first | rfl | omega)).mono ?_; rintro e w' ⟨rfl, y, rfl⟩))
          all_goals (go_meet; refine ⟨_, _, rfl, (ext_of (by repeat (first | exact grew_refl _ | (with_reducible assumption) | refine grew_alloc ?_ _ | refine grew_ext ?_ _ | refine grew_drew ?_ | refine grew_drewN ?_ _))).symm, Lib.hid ?_⟩; first | (with_reducible exact oh_b (by decide) Hn.out))
        · go_wp2_with (first | (go_at_call 46; refine (HL.out _ (by repeat (first | exact grew_refl _ | (with_reducible assumption) | refine grew_alloc ?_ _ | refine grew_ext ?_ _ | refine grew_drew ?_ | refine grew_drewN ?_ _)) _ (by first | rfl | omega)).mono ?_; rintro e w' ⟨rfl, y, rfl⟩))
          all_goals (go_meet; refine ⟨_, _, rfl, (ext_of (by repeat (first | exact grew_refl _ | (with_reducible assumption) | refine grew_alloc ?_ _ | refine grew_ext ?_ _ | refine grew_drew ?_ | refine grew_drewN ?_ _))).symm, Lib.hid ?_⟩; first | (with_reducible exact oh_b (by decide) Hn.out))
        · go_wp2_with (first | (go_at_call 46; refine (HL.out _ (by repeat (first | exact grew_refl _ | (with_reducible assumption) | refine grew_alloc ?_ _ | refine grew_ext ?_ _ | refine grew_drew ?_ | refine grew_drewN ?_ _)) _ (by first | rfl | omega)).mono ?_; rintro e w' ⟨rfl, y, rfl⟩))
          all_goals (go_meet; refine ⟨_, _, rfl, (ext_of (by repeat (first | exact grew_refl _ | (with_reducible assumption) | refine grew_alloc ?_ _ | refine grew_ext ?_ _ | refine grew_drew ?_ | refine grew_drewN ?_ _))).symm, Lib.hid ?_⟩; first | (with_reducible exact oh_b (by decide) Hn.out))
        · have HK := Lib.hid hK'
          go_wp2_with (first | (go_at_call 46; refine (HL.out _ (by repeat (first | exact grew_refl _ | (with_reducible assumption) | refine grew_alloc ?_ _ | refine grew_ext ?_ _ | refine grew_drew ?_ | refine grew_drewN ?_ _)) _ (by first | rfl | omega)).mono ?_; rintro e w' ⟨rfl, y, rfl⟩))
          all_goals (go_meet; refine ⟨_, _, rfl, (ext_of (by repeat (first | exact grew_refl _ | (with_reducible assumption) | refine grew_alloc ?_ _ | refine grew_ext ?_ _ | refine grew_drew ?_ | refine grew_drewN ?_ _))).symm, Lib.hid ?_⟩; first | (with_reducible exact oh_i HK.out))
      case rest =>
        obtain ⟨t0, x0, rfl, rfl, Hok⟩ := hcut
        go_wp2_with fail
        go_loopw [5, 6] (fun s i wr => ∃ (k : Nat) (t : Bool) (x : World), k ≤ ks.length ∧ i = .int .i64 k ∧ s = .bool t ∧ wr = ext (ext (w.alloc (.cells #[.int .i64 K, .int .i64 L.C, .slice a1 L.T.length cap1, .slice a2 ks.length cap2] 31)) x0) x ∧ Hid (t = (okHead K L ks && fineAll (ks.take k)))) (fun _ i _ => ks.length - (intOf i).toNat)
        case atStart => exact ⟨0, _, _, by omega, rfl, rfl, (ext_of (grew_refl _)).symm, Lib.hid (by rw [Hok.out]; simp [fineAll])⟩
        case round =>
          clear Hok
          obtain ⟨k, t, x, hk, rfl, rfl, rfl, hp⟩ := hrel
          by_cases hlt : k < ks.length
          · cases t
            · have Hfin := Lib.hid (fine_stop (L := L) hp.out)
              clear hp
              go_wp2_with fail
              go_ret
              exact ⟨by rw [← Hfin.out]; rfl, ext_intro (by repeat (first | exact grew_refl _ | (with_reducible assumption) | refine grew_alloc ?_ _ | refine grew_ext ?_ _ | refine grew_drew ?_ | refine grew_drewN ?_ _))⟩
            · obtain ⟨bk, ok, cs, rfl, hbk, hF, hsz, hcell⟩ := Hc.out k hlt
              have hc0 := hcell 0 (by omega)
              have hc1 := hcell 1 (by omega)
              have hc2 := hcell 2 (by omega)
              have hc3 := hcell 3 (by omega)
              have Hm := Lib.hid (getD_of hlt)
              have Hst := Lib.hid (fine_step (L := L) hlt hp.out)
              have Hcall := Lib.hid (fun W g => Hih.out ks[k] cs W (hF.mono g))
              generalize ks[k] = Gk at *
              obtain ⟨a1, c1, a2, c2, rfl⟩ := form_cells hF
              simp only [Nat.add_zero, List.getElem_cons_zero, List.getElem_cons_succ] at hc0 hc1 hc2 hc3
              clear hcell
              clear hp
              go_wp2_with fail
              refine (Hcall.out _ (by repeat (first | exact grew_refl _ | (with_reducible assumption) | refine grew_alloc ?_ _ | refine grew_ext ?_ _ | refine grew_drew ?_ | refine grew_drewN ?_ _))).mono ?_
              rintro e w' ⟨rfl, y', rfl⟩
              go_wp2_with fail
              go_roundw
              case rel => exact ⟨k + 1, _, _, by omega, by go_num, rfl, (ext_of (by repeat (first | exact grew_refl _ | (with_reducible assumption) | refine grew_alloc ?_ _ | refine grew_ext ?_ _ | refine grew_drew ?_ | refine grew_drewN ?_ _))).symm, Lib.hid Hst.out⟩
              case measure => simp [intOf]; omega
          · obtain rfl : k = ks.length := by omega
            have Hfin := Lib.hid (fine_end (L := L) hp.out)
            clear hp
            go_wp2_with fail
            go_ret
            exact ⟨by rw [← Hfin.out]; rfl, ext_intro (by repeat (first | exact grew_refl _ | (with_reducible assumption) | refine grew_alloc ?_ _ | refine grew_ext ?_ _ | refine grew_drew ?_ | refine grew_drewN ?_ _))⟩
    · have Hn := Lib.hid (show noneB L = false by unfold noneB; rw [hC, hT]; rfl)
      go_enter Try.func32, Try.ntmps32
      go_upto_block 0 with fail
      go_cut [5] (fun s wc => ∃ (t : Bool) (x : World), s = .bool t ∧ wc = ext (w.alloc (.cells #[.int .i64 K, .int .i64 L.C, .slice a1 L.T.length cap1, .slice a2 ks.length cap2] 31)) x ∧ Hid (okHead K L ks = t))
      case first =>
        rcases (show K = 0 ∨ K = 1 ∨ K = 2 ∨ K = 3 ∨ K = 4 ∨ K = 5 ∨ K = 6 ∨ (K < 0 ∨ 6 < K) by omega) with rfl | rfl | rfl | rfl | rfl | rfl | rfl | hK'
        · go_wp2_with (first | (go_at_call 46; refine (HL.out _ (by repeat (first | exact grew_refl _ | (with_reducible assumption) | refine grew_alloc ?_ _ | refine grew_ext ?_ _ | refine grew_drew ?_ | refine grew_drewN ?_ _)) _ (by first | rfl | omega)).mono ?_; rintro e w' ⟨rfl, y, rfl⟩))
          all_goals (go_meet; refine ⟨_, _, rfl, (ext_of (by repeat (first | exact grew_refl _ | (with_reducible assumption) | refine grew_alloc ?_ _ | refine grew_ext ?_ _ | refine grew_drew ?_ | refine grew_drewN ?_ _))).symm, Lib.hid ?_⟩; first | (with_reducible exact oh_b (by decide) Hn.out))
        · go_wp2_with (first | (go_at_call 46; refine (HL.out _ (by repeat (first | exact grew_refl _ | (with_reducible assumption) | refine grew_alloc ?_ _ | refine grew_ext ?_ _ | refine grew_drew ?_ | refine grew_drewN ?_ _)) _ (by first | rfl | omega)).mono ?_; rintro e w' ⟨rfl, y, rfl⟩))
          all_goals (go_meet; refine ⟨_, _, rfl, (ext_of (by repeat (first | exact grew_refl _ | (with_reducible assumption) | refine grew_alloc ?_ _ | refine grew_ext ?_ _ | refine grew_drew ?_ | refine grew_drewN ?_ _))).symm, Lib.hid ?_⟩; first | (with_reducible exact oh_b (by decide) Hn.out))
        · rcases Bool.eq_false_or_eq_true ((ks.length : Int) == 0) with hl0 | hl0
          all_goals
            go_wp2_with (first | (go_at_call 46; refine (HL.out _ (by repeat (first | exact grew_refl _ | (with_reducible assumption) | refine grew_alloc ?_ _ | refine grew_ext ?_ _ | refine grew_drew ?_ | refine grew_drewN ?_ _)) _ (by first | rfl | omega)).mono ?_; rintro e w' ⟨rfl, y, rfl⟩))
            all_goals (go_meet; refine ⟨_, _, rfl, (ext_of (by repeat (first | exact grew_refl _ | (with_reducible assumption) | refine grew_alloc ?_ _ | refine grew_ext ?_ _ | refine grew_drew ?_ | refine grew_drewN ?_ _))).symm, Lib.hid ?_⟩; first | (with_reducible exact oh_d (by decide) (by with_reducible assumption)) | (with_reducible exact oh_e (by decide) (by with_reducible assumption)))
        · rcases Bool.eq_false_or_eq_true ((ks.length : Int) == 0) with hl0 | hl0
          all_goals
            go_wp2_with (first | (go_at_call 46; refine (HL.out _ (by repeat (first | exact grew_refl _ | (with_reducible assumption) | refine grew_alloc ?_ _ | refine grew_ext ?_ _ | refine grew_drew ?_ | refine grew_drewN ?_ _)) _ (by first | rfl | omega)).mono ?_; rintro e w' ⟨rfl, y, rfl⟩))
            all_goals (go_meet; refine ⟨_, _, rfl, (ext_of (by repeat (first | exact grew_refl _ | (with_reducible assumption) | refine grew_alloc ?_ _ | refine grew_ext ?_ _ | refine grew_drew ?_ | refine grew_drewN ?_ _))).symm, Lib.hid ?_⟩; first | (with_reducible exact oh_d (by decide) (by with_reducible assumption)) | (with_reducible exact oh_e (by decide) (by with_reducible assumption)))
        · go_wp2_with (first | (go_at_call 46; refine (HL.out _ (by repeat (first | exact grew_refl _ | (with_reducible assumption) | refine grew_alloc ?_ _ | refine grew_ext ?_ _ | refine grew_drew ?_ | refine grew_drewN ?_ _)) _ (by first | rfl | omega)).mono ?_; rintro e w' ⟨rfl, y, rfl⟩))
          all_goals (go_meet; refine ⟨_, _, rfl, (ext_of (by repeat (first | exact grew_refl _ | (with_reducible assumption) | refine grew_alloc ?_ _ | refine grew_ext ?_ _ | refine grew_drew ?_ | refine grew_drewN ?_ _))).symm, Lib.hid ?_⟩; first | (with_reducible exact oh_b (by decide) Hn.out))
        · go_wp2_with (first | (go_at_call 46; refine (HL.out _ (by repeat (first | exact grew_refl _ | (with_reducible assumption) | refine grew_alloc ?_ _ | refine grew_ext ?_ _ | refine grew_drew ?_ | refine grew_drewN ?_ _)) _ (by first | rfl | omega)).mono ?_; rintro e w' ⟨rfl, y, rfl⟩))
          all_goals (go_meet; refine ⟨_, _, rfl, (ext_of (by repeat (first | exact grew_refl _ | (with_reducible assumption) | refine grew_alloc ?_ _ | refine grew_ext ?_ _ | refine grew_drew ?_ | refine grew_drewN ?_ _))).symm, Lib.hid ?_⟩; first | (with_reducible exact oh_b (by decide) Hn.out))
        · go_wp2_with (first | (go_at_call 46; refine (HL.out _ (by repeat (first | exact grew_refl _ | (with_reducible assumption) | refine grew_alloc ?_ _ | refine grew_ext ?_ _ | refine grew_drew ?_ | refine grew_drewN ?_ _)) _ (by first | rfl | omega)).mono ?_; rintro e w' ⟨rfl, y, rfl⟩))
          all_goals (go_meet; refine ⟨_, _, rfl, (ext_of (by repeat (first | exact grew_refl _ | (with_reducible assumption) | refine grew_alloc ?_ _ | refine grew_ext ?_ _ | refine grew_drew ?_ | refine grew_drewN ?_ _))).symm, Lib.hid ?_⟩; first | (with_reducible exact oh_b (by decide) Hn.out))
        · have HK := Lib.hid hK'
          go_wp2_with (first | (go_at_call 46; refine (HL.out _ (by repeat (first | exact grew_refl _ | (with_reducible assumption) | refine grew_alloc ?_ _ | refine grew_ext ?_ _ | refine grew_drew ?_ | refine grew_drewN ?_ _)) _ (by first | rfl | omega)).mono ?_; rintro e w' ⟨rfl, y, rfl⟩))
          all_goals (go_meet; refine ⟨_, _, rfl, (ext_of (by repeat (first | exact grew_refl _ | (with_reducible assumption) | refine grew_alloc ?_ _ | refine grew_ext ?_ _ | refine grew_drew ?_ | refine grew_drewN ?_ _))).symm, Lib.hid ?_⟩; first | (with_reducible exact oh_i HK.out))
      case rest =>
        obtain ⟨t0, x0, rfl, rfl, Hok⟩ := hcut
        go_wp2_with fail
        go_loopw [5, 6] (fun s i wr => ∃ (k : Nat) (t : Bool) (x : World), k ≤ ks.length ∧ i = .int .i64 k ∧ s = .bool t ∧ wr = ext (ext (w.alloc (.cells #[.int .i64 K, .int .i64 L.C, .slice a1 L.T.length cap1, .slice a2 ks.length cap2] 31)) x0) x ∧ Hid (t = (okHead K L ks && fineAll (ks.take k)))) (fun _ i _ => ks.length - (intOf i).toNat)
        case atStart => exact ⟨0, _, _, by omega, rfl, rfl, (ext_of (grew_refl _)).symm, Lib.hid (by rw [Hok.out]; simp [fineAll])⟩
        case round =>
          clear Hok
          obtain ⟨k, t, x, hk, rfl, rfl, rfl, hp⟩ := hrel
          by_cases hlt : k < ks.length
          · cases t
            · have Hfin := Lib.hid (fine_stop (L := L) hp.out)
              clear hp
              go_wp2_with fail
              go_ret
              exact ⟨by rw [← Hfin.out]; rfl, ext_intro (by repeat (first | exact grew_refl _ | (with_reducible assumption) | refine grew_alloc ?_ _ | refine grew_ext ?_ _ | refine grew_drew ?_ | refine grew_drewN ?_ _))⟩
            · obtain ⟨bk, ok, cs, rfl, hbk, hF, hsz, hcell⟩ := Hc.out k hlt
              have hc0 := hcell 0 (by omega)
              have hc1 := hcell 1 (by omega)
              have hc2 := hcell 2 (by omega)
              have hc3 := hcell 3 (by omega)
              have Hm := Lib.hid (getD_of hlt)
              have Hst := Lib.hid (fine_step (L := L) hlt hp.out)
              have Hcall := Lib.hid (fun W g => Hih.out ks[k] cs W (hF.mono g))
              generalize ks[k] = Gk at *
              obtain ⟨a1, c1, a2, c2, rfl⟩ := form_cells hF
              simp only [Nat.add_zero, List.getElem_cons_zero, List.getElem_cons_succ] at hc0 hc1 hc2 hc3
              clear hcell
              clear hp
              go_wp2_with fail
              refine (Hcall.out _ (by repeat (first | exact grew_refl _ | (with_reducible assumption) | refine grew_alloc ?_ _ | refine grew_ext ?_ _ | refine grew_drew ?_ | refine grew_drewN ?_ _))).mono ?_
              rintro e w' ⟨rfl, y', rfl⟩
              go_wp2_with fail
              go_roundw
              case rel => exact ⟨k + 1, _, _, by omega, by go_num, rfl, (ext_of (by repeat (first | exact grew_refl _ | (with_reducible assumption) | refine grew_alloc ?_ _ | refine grew_ext ?_ _ | refine grew_drew ?_ | refine grew_drewN ?_ _))).symm, Lib.hid Hst.out⟩
              case measure => simp [intOf]; omega
          · obtain rfl : k = ks.length := by omega
            have Hfin := Lib.hid (fine_end (L := L) hp.out)
            clear hp
            go_wp2_with fail
            go_ret
            exact ⟨by rw [← Hfin.out]; rfl, ext_intro (by repeat (first | exact grew_refl _ | (with_reducible assumption) | refine grew_alloc ?_ _ | refine grew_ext ?_ _ | refine grew_drew ?_ | refine grew_drewN ?_ _))⟩
    · have Hn := Lib.hid (show noneB L = true by unfold noneB; rw [hC, hT]; rfl)
      go_enter Try.func32, Try.ntmps32
      go_upto_block 0 with fail
      go_cut [5] (fun s wc => ∃ (t : Bool) (x : World), s = .bool t ∧ wc = ext (w.alloc (.cells #[.int .i64 K, .int .i64 L.C, .slice a1 L.T.length cap1, .slice a2 ks.length cap2] 31)) x ∧ Hid (okHead K L ks = t))
      case first =>
        rcases (show K = 0 ∨ K = 1 ∨ K = 2 ∨ K = 3 ∨ K = 4 ∨ K = 5 ∨ K = 6 ∨ (K < 0 ∨ 6 < K) by omega) with rfl | rfl | rfl | rfl | rfl | rfl | rfl | hK'
        · go_wp2_with (first | (go_at_call 46; refine (HL.out _ (by repeat (first | exact grew_refl _ | (with_reducible assumption) | refine grew_alloc ?_ _ | refine grew_ext ?_ _ | refine grew_drew ?_ | refine grew_drewN ?_ _)) _ (by first | rfl | omega)).mono ?_; rintro e w' ⟨rfl, y, rfl⟩))
          all_goals (go_meet; refine ⟨_, _, rfl, (ext_of (by repeat (first | exact grew_refl _ | (with_reducible assumption) | refine grew_alloc ?_ _ | refine grew_ext ?_ _ | refine grew_drew ?_ | refine grew_drewN ?_ _))).symm, Lib.hid ?_⟩; first | (with_reducible exact oh_a (by decide) Hn.out))
        · go_wp2_with (first | (go_at_call 46; refine (HL.out _ (by repeat (first | exact grew_refl _ | (with_reducible assumption) | refine grew_alloc ?_ _ | refine grew_ext ?_ _ | refine grew_drew ?_ | refine grew_drewN ?_ _)) _ (by first | rfl | omega)).mono ?_; rintro e w' ⟨rfl, y, rfl⟩))
          all_goals (go_meet; refine ⟨_, _, rfl, (ext_of (by repeat (first | exact grew_refl _ | (with_reducible assumption) | refine grew_alloc ?_ _ | refine grew_ext ?_ _ | refine grew_drew ?_ | refine grew_drewN ?_ _))).symm, Lib.hid ?_⟩; first | (with_reducible exact oh_a (by decide) Hn.out))
        · rcases Bool.eq_false_or_eq_true ((ks.length : Int) == 0) with hl0 | hl0
          all_goals
            go_wp2_with (first | (go_at_call 46; refine (HL.out _ (by repeat (first | exact grew_refl _ | (with_reducible assumption) | refine grew_alloc ?_ _ | refine grew_ext ?_ _ | refine grew_drew ?_ | refine grew_drewN ?_ _)) _ (by first | rfl | omega)).mono ?_; rintro e w' ⟨rfl, y, rfl⟩))
            all_goals (go_meet; refine ⟨_, _, rfl, (ext_of (by repeat (first | exact grew_refl _ | (with_reducible assumption) | refine grew_alloc ?_ _ | refine grew_ext ?_ _ | refine grew_drew ?_ | refine grew_drewN ?_ _))).symm, Lib.hid ?_⟩; first | (with_reducible exact oh_d (by decide) (by with_reducible assumption)) | (with_reducible exact oh_e (by decide) (by with_reducible assumption)))
        · rcases Bool.eq_false_or_eq_true ((ks.length : Int) == 0) with hl0 | hl0
          all_goals
            go_wp2_with (first | (go_at_call 46; refine (HL.out _ (by repeat (first | exact grew_refl _ | (with_reducible assumption) | refine grew_alloc ?_ _ | refine grew_ext ?_ _ | refine grew_drew ?_ | refine grew_drewN ?_ _)) _ (by first | rfl | omega)).mono ?_; rintro e w' ⟨rfl, y, rfl⟩))
            all_goals (go_meet; refine ⟨_, _, rfl, (ext_of (by repeat (first | exact grew_refl _ | (with_reducible assumption) | refine grew_alloc ?_ _ | refine grew_ext ?_ _ | refine grew_drew ?_ | refine grew_drewN ?_ _))).symm, Lib.hid ?_⟩; first | (with_reducible exact oh_d (by decide) (by with_reducible assumption)) | (with_reducible exact oh_e (by decide) (by with_reducible assumption)))
        · go_wp2_with (first | (go_at_call 46; refine (HL.out _ (by repeat (first | exact grew_refl _ | (with_reducible assumption) | refine grew_alloc ?_ _ | refine grew_ext ?_ _ | refine grew_drew ?_ | refine grew_drewN ?_ _)) _ (by first | rfl | omega)).mono ?_; rintro e w' ⟨rfl, y, rfl⟩))
          all_goals (go_meet; refine ⟨_, _, rfl, (ext_of (by repeat (first | exact grew_refl _ | (with_reducible assumption) | refine grew_alloc ?_ _ | refine grew_ext ?_ _ | refine grew_drew ?_ | refine grew_drewN ?_ _))).symm, Lib.hid ?_⟩; first | (with_reducible exact oh_f Hn.out))
        · go_wp2_with (first | (go_at_call 46; refine (HL.out _ (by repeat (first | exact grew_refl _ | (with_reducible assumption) | refine grew_alloc ?_ _ | refine grew_ext ?_ _ | refine grew_drew ?_ | refine grew_drewN ?_ _)) _ (by first | rfl | omega)).mono ?_; rintro e w' ⟨rfl, y, rfl⟩))
          all_goals (go_meet; refine ⟨_, _, rfl, (ext_of (by repeat (first | exact grew_refl _ | (with_reducible assumption) | refine grew_alloc ?_ _ | refine grew_ext ?_ _ | refine grew_drew ?_ | refine grew_drewN ?_ _))).symm, Lib.hid ?_⟩; first | (with_reducible exact oh_g (by decide) Hn.out))
        · go_wp2_with (first | (go_at_call 46; refine (HL.out _ (by repeat (first | exact grew_refl _ | (with_reducible assumption) | refine grew_alloc ?_ _ | refine grew_ext ?_ _ | refine grew_drew ?_ | refine grew_drewN ?_ _)) _ (by first | rfl | omega)).mono ?_; rintro e w' ⟨rfl, y, rfl⟩))
          all_goals (go_meet; refine ⟨_, _, rfl, (ext_of (by repeat (first | exact grew_refl _ | (with_reducible assumption) | refine grew_alloc ?_ _ | refine grew_ext ?_ _ | refine grew_drew ?_ | refine grew_drewN ?_ _))).symm, Lib.hid ?_⟩; first | (with_reducible exact oh_g (by decide) Hn.out))
        · have HK := Lib.hid hK'
          go_wp2_with (first | (go_at_call 46; refine (HL.out _ (by repeat (first | exact grew_refl _ | (with_reducible assumption) | refine grew_alloc ?_ _ | refine grew_ext ?_ _ | refine grew_drew ?_ | refine grew_drewN ?_ _)) _ (by first | rfl | omega)).mono ?_; rintro e w' ⟨rfl, y, rfl⟩))
          all_goals (go_meet; refine ⟨_, _, rfl, (ext_of (by repeat (first | exact grew_refl _ | (with_reducible assumption) | refine grew_alloc ?_ _ | refine grew_ext ?_ _ | refine grew_drew ?_ | refine grew_drewN ?_ _))).symm, Lib.hid ?_⟩; first | (with_reducible exact oh_i HK.out))
      case rest =>
        obtain ⟨t0, x0, rfl, rfl, Hok⟩ := hcut
        go_wp2_with fail
        go_loopw [5, 6] (fun s i wr => ∃ (k : Nat) (t : Bool) (x : World), k ≤ ks.length ∧ i = .int .i64 k ∧ s = .bool t ∧ wr = ext (ext (w.alloc (.cells #[.int .i64 K, .int .i64 L.C, .slice a1 L.T.length cap1, .slice a2 ks.length cap2] 31)) x0) x ∧ Hid (t = (okHead K L ks && fineAll (ks.take k)))) (fun _ i _ => ks.length - (intOf i).toNat)
        case atStart => exact ⟨0, _, _, by omega, rfl, rfl, (ext_of (grew_refl _)).symm, Lib.hid (by rw [Hok.out]; simp [fineAll])⟩
        case round =>
          clear Hok
          obtain ⟨k, t, x, hk, rfl, rfl, rfl, hp⟩ := hrel
          by_cases hlt : k < ks.length
          · cases t
            · have Hfin := Lib.hid (fine_stop (L := L) hp.out)
              clear hp
              go_wp2_with fail
              go_ret
              exact ⟨by rw [← Hfin.out]; rfl, ext_intro (by repeat (first | exact grew_refl _ | (with_reducible assumption) | refine grew_alloc ?_ _ | refine grew_ext ?_ _ | refine grew_drew ?_ | refine grew_drewN ?_ _))⟩
            · obtain ⟨bk, ok, cs, rfl, hbk, hF, hsz, hcell⟩ := Hc.out k hlt
              have hc0 := hcell 0 (by omega)
              have hc1 := hcell 1 (by omega)
              have hc2 := hcell 2 (by omega)
              have hc3 := hcell 3 (by omega)
              have Hm := Lib.hid (getD_of hlt)
              have Hst := Lib.hid (fine_step (L := L) hlt hp.out)
              have Hcall := Lib.hid (fun W g => Hih.out ks[k] cs W (hF.mono g))
              generalize ks[k] = Gk at *
              obtain ⟨a1, c1, a2, c2, rfl⟩ := form_cells hF
              simp only [Nat.add_zero, List.getElem_cons_zero, List.getElem_cons_succ] at hc0 hc1 hc2 hc3
              clear hcell
              clear hp
              go_wp2_with fail
              refine (Hcall.out _ (by repeat (first | exact grew_refl _ | (with_reducible assumption) | refine grew_alloc ?_ _ | refine grew_ext ?_ _ | refine grew_drew ?_ | refine grew_drewN ?_ _))).mono ?_
              rintro e w' ⟨rfl, y', rfl⟩
              go_wp2_with fail
              go_roundw
              case rel => exact ⟨k + 1, _, _, by omega, by go_num, rfl, (ext_of (by repeat (first | exact grew_refl _ | (with_reducible assumption) | refine grew_alloc ?_ _ | refine grew_ext ?_ _ | refine grew_drew ?_ | refine grew_drewN ?_ _))).symm, Lib.hid Hst.out⟩
              case measure => simp [intOf]; omega
          · obtain rfl : k = ks.length := by omega
            have Hfin := Lib.hid (fine_end (L := L) hp.out)
            clear hp
            go_wp2_with fail
            go_ret
            exact ⟨by rw [← Hfin.out]; rfl, ext_intro (by repeat (first | exact grew_refl _ | (with_reducible assumption) | refine grew_alloc ?_ _ | refine grew_ext ?_ _ | refine grew_drew ?_ | refine grew_drewN ?_ _))⟩

theorem rFine_any : ∀ n : Nat, RFineSaid n
  | 0 => fun _ _ _ h => h.elim
  | n + 1 => rFine_step n (rFine_any n)
end Go.Proofs.Ytdieipdbkpcgmaa
