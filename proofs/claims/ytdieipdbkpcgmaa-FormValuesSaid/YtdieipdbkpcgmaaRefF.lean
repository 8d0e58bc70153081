/- The document's answer for layer 2: the value of a formula. -/
import Derived.Test.YtdieipdbkpcgmaaRefE
import Derived.Test.YtdieipdbkpcgmaaRefD
namespace Go.Proofs.Ytdieipdbkpcgmaa
set_option linter.unusedSimpArgs false
set_option linter.unusedVariables false
open Go.RowKit

theorem truthAll_take {vals : List Int} {ks : List Form} {k : Nat} (h : k < ks.length) : truthAll vals (ks.take (k + 1)) = (truthAll vals (ks.take k) && truth vals ks[k]) := by
  induction ks generalizing k with
  | nil => simp at h
  | cons x ks ih =>
    cases k with
    | zero => simp [truthAll]
    | succ k => simp only [List.take_succ_cons, truthAll, List.getElem_cons_succ]; rw [ih (by simpa using h), Bool.and_assoc]
theorem truthAny_take {vals : List Int} {ks : List Form} {k : Nat} (h : k < ks.length) : truthAny vals (ks.take (k + 1)) = (truthAny vals (ks.take k) || truth vals ks[k]) := by
  induction ks generalizing k with
  | nil => simp at h
  | cons x ks ih =>
    cases k with
    | zero => simp [truthAny]
    | succ k => simp only [List.take_succ_cons, truthAny, List.getElem_cons_succ]; rw [ih (by simpa using h), Bool.or_assoc]
theorem both_step {vals : List Int} {ks : List Form} {k : Nat} {t1 t2 : Bool} (h : k < ks.length) (h1 : t1 = truthAll vals (ks.take k)) (h2 : t2 = truthAny vals (ks.take k)) :
    (t1 && truth vals ks[k]) = truthAll vals (ks.take (k + 1)) ∧ (t2 || truth vals ks[k]) = truthAny vals (ks.take (k + 1)) := by
  rw [truthAll_take h, truthAny_take h, ← h1, ← h2]; exact ⟨rfl, rfl⟩

def IsSaid (n : Nat) : Prop := ∀ (F : Form) (cs : List Value) (vV : Value) (vals : List Int) (w : World), IsForm w n F cs → IsInts w vV vals → fineB F = true → farF vals F = false →
  Calls Try.prog 30 #[.agg cs.toArray, vV] w fun e w' => e = .returned (.bool (truth vals F)) ∧ ∃ x, w' = ext w x

theorem is_2 {L : Lin} {ks : List Form} {vals : List Int} {v : Int} (hv : v = linVal L vals) : Ending.returned (.bool (decide (v ≤ 0))) = .returned (.bool (truth vals ⟨2, L, ks⟩)) := by subst hv; simp [truth]
theorem is_3 {L : Lin} {ks : List Form} {vals : List Int} {v : Int} (hv : v = linVal L vals) : Ending.returned (.bool (v == 0)) = .returned (.bool (truth vals ⟨3, L, ks⟩)) := by
  subst hv; have e : (linVal L vals == 0) = decide (linVal L vals = 0) := by rw [Bool.eq_iff_iff]; simp
  rw [e]; simp [truth]
theorem is_5 {L : Lin} {ks : List Form} {vals : List Int} {t : Bool} (h : t = truthAll vals ks) : t = truth vals ⟨5, L, ks⟩ := by simp [truth, h]
theorem is_6 {L : Lin} {ks : List Form} {vals : List Int} {t : Bool} (h : t = truthAny vals ks) : t = truth vals ⟨6, L, ks⟩ := by simp [truth, h]
theorem fine_kind {K : Int} {L : Lin} {ks : List Form} (h : fineB ⟨K, L, ks⟩ = true) : K = 0 ∨ K = 1 ∨ K = 2 ∨ K = 3 ∨ K = 4 ∨ K = 5 ∨ K = 6 := by
  by_cases hK : K < 0 ∨ 6 < K
  · have := fz_i (L := L) (ks := ks) hK
    rw [h] at this
    simp at this
  · omega

set_option maxRecDepth 100000 in
set_option maxHeartbeats 8000000 in
theorem is_step (n : Nat) (ih : IsSaid n) : IsSaid (n + 1) := fun F cs vV vals w h hv h1 h2 => by
    obtain ⟨K, L, ks⟩ := F
    obtain ⟨hK, vT, vK, rfl, hT, hk⟩ := h
    have hvg := Lib.hid (fun W (g : Below w.heap.size w W) => hv.mono g)
    have HL := Lib.hid (fun W (g : Below w.heap.size w W) => rLinValue_any (hT.mono g) (hv.mono g))
    have HF := Lib.hid h1
    have HR := Lib.hid h2
    have Hih := Lib.hid ih
    have hkind := fine_kind h1
    obtain ⟨a2, cap2, rfl, hl2, _, hc⟩ := hk
    obtain ⟨hC, a1, cap1, rfl, hl1, _, hcT⟩ := hT
    obtain ⟨aV, capV, rfl, hlV, _⟩ := int_at hv
    simp only at *
    have Hc := Lib.hid hc
    clear hc hcT hK hC h1 h2 hv
    rcases hkind with rfl | rfl | rfl | rfl | rfl | rfl | rfl
    · go_enter Try.func30, Try.ntmps30
      go_wp2_with fail
      all_goals (go_ret; refine ⟨?_, ext_intro (by repeat (first | exact grew_refl _ | (with_reducible assumption) | refine grew_alloc ?_ _ | refine grew_ext ?_ _ | refine grew_drew ?_ | refine grew_drewN ?_ _))⟩; show Ending.returned (.bool _) = _; first | (with_reducible exact tr_0))
    · go_enter Try.func30, Try.ntmps30
      go_wp2_with fail
      all_goals (go_ret; refine ⟨?_, ext_intro (by repeat (first | exact grew_refl _ | (with_reducible assumption) | refine grew_alloc ?_ _ | refine grew_ext ?_ _ | refine grew_drew ?_ | refine grew_drewN ?_ _))⟩; show Ending.returned (.bool _) = _; first | (with_reducible exact tr_1))
    · obtain ⟨v, hv⟩ : ∃ v, v = linVal L vals := ⟨_, rfl⟩
      have He := Lib.hid (is_2 (ks := ks) hv)
      unfold RValPost at HL
      rw [← hv] at HL
      clear hv
      go_enter Try.func30, Try.ntmps30
      go_wp2_with fail
      refine (HL.out _ (by repeat (first | exact grew_refl _ | (with_reducible assumption) | refine grew_alloc ?_ _ | refine grew_ext ?_ _ | refine grew_drew ?_ | refine grew_drewN ?_ _)) _ rfl).mono ?_
      rintro e w' ⟨rfl, y, rfl⟩
      go_wp2_with fail
      all_goals (go_ret; refine ⟨?_, ext_intro (by repeat (first | exact grew_refl _ | (with_reducible assumption) | refine grew_alloc ?_ _ | refine grew_ext ?_ _ | refine grew_drew ?_ | refine grew_drewN ?_ _))⟩; show Ending.returned (.bool _) = _; first | (with_reducible exact He.out))
    · obtain ⟨v, hv⟩ : ∃ v, v = linVal L vals := ⟨_, rfl⟩
      have He := Lib.hid (is_3 (ks := ks) hv)
      unfold RValPost at HL
      rw [← hv] at HL
      clear hv
      go_enter Try.func30, Try.ntmps30
      go_wp2_with fail
      refine (HL.out _ (by repeat (first | exact grew_refl _ | (with_reducible assumption) | refine grew_alloc ?_ _ | refine grew_ext ?_ _ | refine grew_drew ?_ | refine grew_drewN ?_ _)) _ rfl).mono ?_
      rintro e w' ⟨rfl, y, rfl⟩
      go_wp2_with fail
      all_goals (go_ret; refine ⟨?_, ext_intro (by repeat (first | exact grew_refl _ | (with_reducible assumption) | refine grew_alloc ?_ _ | refine grew_ext ?_ _ | refine grew_drew ?_ | refine grew_drewN ?_ _))⟩; show Ending.returned (.bool _) = _; first | (with_reducible exact He.out))
    · have h1 := fine_not HF.out
      have h0 : 0 < ks.length := by omega
      obtain ⟨bk, ok, cs, rfl, hbk, hF, hsz, hcell⟩ := Hc.out 0 h0
      have hc0 := hcell 0 (by omega)
      have hc1 := hcell 1 (by omega)
      have hc2 := hcell 2 (by omega)
      have hc3 := hcell 3 (by omega)
      have Hend := Lib.hid (tr_4 (vals := vals) (L := L) h1 h0)
      have Hcall := Lib.hid (fun W (g : Below w.heap.size w W) => Hih.out ks[0] cs _ vals W (hF.mono g) (hvg.out W g) (fine_kids HF.out (List.getElem_mem h0)) (farF_kid HR.out (List.getElem_mem h0)))
      generalize ks[0] = Gk at *
      obtain ⟨b1, d1, b2, d2, rfl⟩ := form_cells hF
      simp only [Nat.add_zero, Nat.zero_mul, List.getElem_cons_zero, List.getElem_cons_succ] at hc0 hc1 hc2 hc3
      clear hcell
      have H1 := Lib.hid h1
      clear h1
      go_enter Try.func30, Try.ntmps30
      go_wp2_with fail
      refine (Hcall.out _ (by repeat (first | exact grew_refl _ | (with_reducible assumption) | refine grew_alloc ?_ _ | refine grew_ext ?_ _ | refine grew_drew ?_ | refine grew_drewN ?_ _))).mono ?_
      rintro e w' ⟨rfl, y, rfl⟩
      go_wp2_with fail
      all_goals (go_ret; refine ⟨?_, ext_intro (by repeat (first | exact grew_refl _ | (with_reducible assumption) | refine grew_alloc ?_ _ | refine grew_ext ?_ _ | refine grew_drew ?_ | refine grew_drewN ?_ _))⟩; show Ending.returned (.bool _) = _; first | (with_reducible exact Hend.out))
    · go_enter Try.func30, Try.ntmps30
      go_wp2_with fail
      go_loopw [10, 11, 12] (fun s1 s2 i wr => ∃ (k : Nat) (t1 t2 : Bool) (x : World), k ≤ ks.length ∧ i = .int .i64 k ∧ s1 = .bool t1 ∧ s2 = .bool t2 ∧ wr = ext (w.alloc (.cells #[.int .i64 5, .int .i64 L.C, .slice a1 L.T.length cap1, .slice a2 ks.length cap2] 31)) x ∧ Hid (t1 = truthAll vals (ks.take k)) ∧ Hid (t2 = truthAny vals (ks.take k))) (fun _ _ i _ => ks.length - (intOf i).toNat)
      case atStart => exact ⟨0, true, false, _, by omega, rfl, rfl, rfl, (ext_of (grew_refl _)).symm, Lib.hid rfl, Lib.hid rfl⟩
      case round =>
        obtain ⟨k, t1, t2, x, hk, rfl, rfl, rfl, rfl, hp1, hp2⟩ := hrel
        by_cases hlt : k < ks.length
        · obtain ⟨bk, ok, cs, rfl, hbk, hF, hsz, hcell⟩ := Hc.out k hlt
          have hc0 := hcell 0 (by omega)
          have hc1 := hcell 1 (by omega)
          have hc2 := hcell 2 (by omega)
          have hc3 := hcell 3 (by omega)
          have Hm := Lib.hid (getD_of hlt)
          have Hst := Lib.hid (both_step hlt hp1.out hp2.out)
          have Hcall := Lib.hid (fun W (g : Below w.heap.size w W) => Hih.out ks[k] cs _ vals W (hF.mono g) (hvg.out W g) (fine_kids HF.out (List.getElem_mem hlt)) (farF_kid HR.out (List.getElem_mem hlt)))
          generalize ks[k] = Gk at *
          obtain ⟨a1, c1, a2, c2, rfl⟩ := form_cells hF
          simp only [Nat.add_zero, List.getElem_cons_zero, List.getElem_cons_succ] at hc0 hc1 hc2 hc3
          clear hcell
          generalize truth vals Gk = t at *
          clear hp1 hp2
          cases t1 <;> cases t2
          all_goals
            go_wp2_with fail
            refine (Hcall.out _ (by repeat (first | exact grew_refl _ | (with_reducible assumption) | refine grew_alloc ?_ _ | refine grew_ext ?_ _ | refine grew_drew ?_ | refine grew_drewN ?_ _))).mono ?_
            rintro e w' ⟨rfl, y, rfl⟩
            go_wp2_with fail
            go_roundw
            case rel => exact ⟨k + 1, _, _, _, by omega, by go_num, rfl, rfl, (ext_of (by repeat (first | exact grew_refl _ | (with_reducible assumption) | refine grew_alloc ?_ _ | refine grew_ext ?_ _ | refine grew_drew ?_ | refine grew_drewN ?_ _))).symm, Lib.hid Hst.out.1, Lib.hid Hst.out.2⟩
            case measure => simp [intOf]; omega
        · obtain rfl : k = ks.length := by omega
          have Hend := Lib.hid (is_5 (L := L) (ks := ks) (show t1 = truthAll vals ks by have := hp1.out; rwa [List.take_length] at this))
          clear hp1 hp2
          go_wp2_with fail
          go_ret
          exact ⟨by rw [← Hend.out]; rfl, ext_intro (by repeat (first | exact grew_refl _ | (with_reducible assumption) | refine grew_alloc ?_ _ | refine grew_ext ?_ _ | refine grew_drew ?_ | refine grew_drewN ?_ _))⟩
    · go_enter Try.func30, Try.ntmps30
      go_wp2_with fail
      go_loopw [10, 11, 12] (fun s1 s2 i wr => ∃ (k : Nat) (t1 t2 : Bool) (x : World), k ≤ ks.length ∧ i = .int .i64 k ∧ s1 = .bool t1 ∧ s2 = .bool t2 ∧ wr = ext (w.alloc (.cells #[.int .i64 6, .int .i64 L.C, .slice a1 L.T.length cap1, .slice a2 ks.length cap2] 31)) x ∧ Hid (t1 = truthAll vals (ks.take k)) ∧ Hid (t2 = truthAny vals (ks.take k))) (fun _ _ i _ => ks.length - (intOf i).toNat)
      case atStart => exact ⟨0, true, false, _, by omega, rfl, rfl, rfl, (ext_of (grew_refl _)).symm, Lib.hid rfl, Lib.hid rfl⟩
      case round =>
        obtain ⟨k, t1, t2, x, hk, rfl, rfl, rfl, rfl, hp1, hp2⟩ := hrel
        by_cases hlt : k < ks.length
        · obtain ⟨bk, ok, cs, rfl, hbk, hF, hsz, hcell⟩ := Hc.out k hlt
          have hc0 := hcell 0 (by omega)
          have hc1 := hcell 1 (by omega)
          have hc2 := hcell 2 (by omega)
          have hc3 := hcell 3 (by omega)
          have Hm := Lib.hid (getD_of hlt)
          have Hst := Lib.hid (both_step hlt hp1.out hp2.out)
          have Hcall := Lib.hid (fun W (g : Below w.heap.size w W) => Hih.out ks[k] cs _ vals W (hF.mono g) (hvg.out W g) (fine_kids HF.out (List.getElem_mem hlt)) (farF_kid HR.out (List.getElem_mem hlt)))
          generalize ks[k] = Gk at *
          obtain ⟨a1, c1, a2, c2, rfl⟩ := form_cells hF
          simp only [Nat.add_zero, List.getElem_cons_zero, List.getElem_cons_succ] at hc0 hc1 hc2 hc3
          clear hcell
          generalize truth vals Gk = t at *
          clear hp1 hp2
          cases t1 <;> cases t2
          all_goals
            go_wp2_with fail
            refine (Hcall.out _ (by repeat (first | exact grew_refl _ | (with_reducible assumption) | refine grew_alloc ?_ _ | refine grew_ext ?_ _ | refine grew_drew ?_ | refine grew_drewN ?_ _))).mono ?_
            rintro e w' ⟨rfl, y, rfl⟩
            go_wp2_with fail
            go_roundw
            case rel => exact ⟨k + 1, _, _, _, by omega, by go_num, rfl, rfl, (ext_of (by repeat (first | exact grew_refl _ | (with_reducible assumption) | refine grew_alloc ?_ _ | refine grew_ext ?_ _ | refine grew_drew ?_ | refine grew_drewN ?_ _))).symm, Lib.hid Hst.out.1, Lib.hid Hst.out.2⟩
            case measure => simp [intOf]; omega
        · obtain rfl : k = ks.length := by omega
          have Hend := Lib.hid (is_6 (L := L) (ks := ks) (show t2 = truthAny vals ks by have := hp2.out; rwa [List.take_length] at this))
          clear hp1 hp2
          go_wp2_with fail
          go_ret
          exact ⟨by rw [← Hend.out]; rfl, ext_intro (by repeat (first | exact grew_refl _ | (with_reducible assumption) | refine grew_alloc ?_ _ | refine grew_ext ?_ _ | refine grew_drew ?_ | refine grew_drewN ?_ _))⟩
theorem rIs_any : ∀ n : Nat, IsSaid n
  | 0 => fun _ _ _ _ _ h => h.elim
  | n + 1 => is_step n (rIs_any n)
end Go.Proofs.Ytdieipdbkpcgmaa
