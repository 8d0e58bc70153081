/- The document's answer for layer 2: what is amiss. -/
import Derived.Test.YtdieipdbkpcgmaaFormE
import Derived.Test.YtdieipdbkpcgmaaRefA
namespace Go.Proofs.Ytdieipdbkpcgmaa
set_option linter.unusedSimpArgs false
set_option linter.unusedVariables false
open Go.RowKit

/-! Depth -/
def maxTo (f : Form → Nat) : List Form → Nat
  | [] => 0
  | k :: ks => max (f k) (maxTo f ks)
def dep : Nat → Form → Nat
  | 0, _ => 1
  | b + 1, F => maxTo (dep b) F.kids + 1
theorem maxTo_succ {f : Form → Nat} {ks : List Form} {k : Nat} (h : k < ks.length) : maxTo f (ks.take (k + 1)) = max (maxTo f (ks.take k)) (f ks[k]) := by
  induction ks generalizing k with
  | nil => simp at h
  | cons x ks ih =>
    cases k with
    | zero => simp [maxTo]
    | succ k => simp only [List.take_succ_cons, maxTo, List.getElem_cons_succ]; rw [ih (by simpa using h)]; omega
theorem maxTo_gt {f : Form → Nat} {p : Form → Bool} {b : Nat} (h : ∀ x, decide (b < f x) = p x) (ks : List Form) : decide (b < maxTo f ks) = ks.any p := by
  induction ks with
  | nil => simp [maxTo]
  | cons x ks ih =>
    rw [List.any_cons, ← ih, ← h, maxTo, Bool.eq_iff_iff]
    simp only [decide_eq_true_eq, Bool.or_eq_true]; omega
theorem dep_deep : ∀ (b : Nat) (F : Form), decide (b < dep b F) = deepN b F
  | 0, F => by simp [dep, deepN]
  | b + 1, F => by
    rw [deepN, ← maxTo_gt (f := dep b) (fun x => dep_deep b x) F.kids, dep, Bool.eq_iff_iff]
    simp only [decide_eq_true_eq]; omega
theorem maxTo_le {f : Form → Nat} {c : Nat} (h : ∀ x, f x ≤ c) (ks : List Form) : maxTo f ks ≤ c := by
  induction ks with
  | nil => simp [maxTo]
  | cons x ks ih => simp only [maxTo]; have := h x; omega
theorem dep_le : ∀ (b : Nat) (F : Form), dep b F ≤ b + 1
  | 0, F => by simp [dep]
  | b + 1, F => by have := maxTo_le (c := b + 1) (fun x => dep_le b x) F.kids; simp only [dep]; omega

def DepthSaid (b : Nat) : Prop := ∀ (z : Int) (n : Nat) (F : Form) (cs : List Value) (w : World), z = b → IsForm w n F cs →
  Calls Try.prog 31 #[.agg cs.toArray, .int .i64 z] w fun e w' => e = .returned (.int .i64 (dep b F)) ∧ ∃ x, w' = ext w x

set_option maxRecDepth 100000 in
set_option maxHeartbeats 1000000 in
theorem rDepth_any : ∀ b : Nat, b ≤ 64 → DepthSaid b
  | 0, _, z, n, F, cs, w, hz, h => by
    obtain ⟨a1, c1, a2, c2, rfl⟩ := form_cells h
    have hz1 : z ≤ 0 := by omega
    clear hz
    go_enter Try.func31, Try.ntmps31
    go_wp2_with fail
    refine wp_loop_rounds 1 ?_
    rw [rounds_succ]
    by_cases h0 : 0 < F.kids.length
    all_goals
      go_wp2_with fail
      go_ret
      exact ⟨rfl, ext_intro (by repeat (first | exact grew_refl _ | (with_reducible assumption) | refine grew_alloc ?_ _ | refine grew_ext ?_ _ | refine grew_drew ?_ | refine grew_drewN ?_ _))⟩
  | b + 1, hb, z, n, F, cs, w, hz, h => by
    have Hih := Lib.hid (rDepth_any b (by omega))
    have hz1 : 1 ≤ z := by omega
    have hz2 : z ≤ 65 := by omega
    have Hz := Lib.hid (show z - 1 = b by omega); clear hz
    obtain ⟨m, rfl⟩ : ∃ m, n = m + 1 := by cases n with | zero => exact h.elim | succ n => exact ⟨n, rfl⟩
    obtain ⟨hK, vT, vK, rfl, ⟨hC, aT, capT, rfl, hlT, hcapT, hcT⟩, a, cap, rfl, hl, hcap, hc⟩ := h
    have Hc := Lib.hid hc; clear hc hcT
    go_enter Try.func31, Try.ntmps31
    go_wp2_with fail
    go_loopw [5, 6] (fun s i wr => ∃ (k d : Nat) (x : World), k ≤ F.kids.length ∧ i = .int .i64 k ∧ s = .int .i64 d ∧ wr = ext (w.alloc (.cells #[.int .i64 F.K, .int .i64 F.L.C, .slice aT F.L.T.length capT, .slice a F.kids.length cap] 31)) x ∧ Hid (d = maxTo (dep b) (F.kids.take k)) ∧ d ≤ b + 1) (fun _ i _ => F.kids.length - (intOf i).toNat)
    case atStart => exact ⟨0, 0, _, by omega, rfl, rfl, (ext_of (grew_refl _)).symm, Lib.hid rfl, by omega⟩
    case round =>
      obtain ⟨k, d, x, hk, rfl, rfl, rfl, hp, hd⟩ := hrel
      by_cases hlt : k < F.kids.length
      · obtain ⟨bk, ok, cs, rfl, hbk, hF, hsz, hcell⟩ := Hc.out k hlt
        have hc0 := hcell 0 (by omega)
        have hc1 := hcell 1 (by omega)
        have hc2 := hcell 2 (by omega)
        have hc3 := hcell 3 (by omega)
        have Hm := Lib.hid (getD_of hlt)
        have hdl := dep_le b F.kids[k]
        have Hst := Lib.hid (maxTo_succ (f := dep b) hlt)
        have Hcall := Lib.hid (fun W g => Hih.out (z - 1) m F.kids[k] cs W Hz.out (hF.mono g))
        generalize F.kids[k] = Gk at *
        obtain ⟨a1, c1, a2, c2, rfl⟩ := form_cells hF
        simp only [Nat.add_zero, List.getElem_cons_zero, List.getElem_cons_succ] at hc0 hc1 hc2 hc3
        clear hcell
        have Hst2 := Lib.hid (Hst.out.trans (congrArg (max · (dep b Gk)) hp.out.symm)); clear Hst
        generalize dep b Gk = r at *
        go_wp2_with fail
        refine (Hcall.out _ (by repeat (first | exact grew_refl _ | (with_reducible assumption) | refine grew_alloc ?_ _ | refine grew_ext ?_ _ | refine grew_drew ?_ | refine grew_drewN ?_ _))).mono ?_
        rintro e w' ⟨rfl, y, rfl⟩
        by_cases hr : d < r
        · go_wp2_with fail
          go_roundw
          case rel => exact ⟨k + 1, r, _, by omega, by go_num, rfl, (ext_of (by repeat (first | exact grew_refl _ | (with_reducible assumption) | refine grew_alloc ?_ _ | refine grew_ext ?_ _ | refine grew_drew ?_ | refine grew_drewN ?_ _))).symm, Lib.hid (by rw [Hst2.out]; omega), by omega⟩
          case measure => simp [intOf]; omega
        · go_wp2_with fail
          go_roundw
          case rel => exact ⟨k + 1, d, _, by omega, by go_num, rfl, (ext_of (by repeat (first | exact grew_refl _ | (with_reducible assumption) | refine grew_alloc ?_ _ | refine grew_ext ?_ _ | refine grew_drew ?_ | refine grew_drewN ?_ _))).symm, Lib.hid (by rw [Hst2.out]; omega), by omega⟩
          case measure => simp [intOf]; omega
      · obtain rfl : k = F.kids.length := by omega
        have Hp := Lib.hid (show (d : Int) + 1 = (dep (b + 1) F : Nat) by have := hp.out; rw [List.take_length] at this; simp [dep, this])
        clear hp
        go_wp2_with fail
        go_ret
        exact ⟨by rw [← Hp.out]; rfl, ext_intro (by repeat (first | exact grew_refl _ | (with_reducible assumption) | refine grew_alloc ?_ _ | refine grew_ext ?_ _ | refine grew_drew ?_ | refine grew_drewN ?_ _))⟩

/-! Size -/
def leftOf (z : Int) (t : Nat) : Int := if (t : Int) ≤ z then z - t else -1
set_option maxRecDepth 100000 in
set_option maxHeartbeats 1000000 in
theorem rSize_any : ∀ (n : Nat) (F : Form) (cs : List Value) (w : World) (z : Int), 0 ≤ z → z ≤ 1000000000 → IsForm w n F cs →
    Calls Try.prog 17 #[.agg cs.toArray, .int .i64 z] w fun e w' => e = .returned (.int .i64 (leftOf z (total F))) ∧ ∃ x, w' = ext w x
  | 0, F, cs, w, z, _, _, h => h.elim
  | m + 1, F, cs, w, z, hz1, hz2, h => by
    have Hih := Lib.hid (rSize_any m)
    obtain ⟨hK, vT, vK, rfl, ⟨hC, aT, capT, rfl, hlT, hcapT, hcT⟩, a, cap, rfl, hl, hcap, hc⟩ := h
    have Hc := Lib.hid hc; clear hc hcT
    go_enter Try.func17, Try.ntmps17
    go_wp2_with fail
    go_loopw [1, 5] (fun s i wr => ∃ (k : Nat) (y : Int) (x : World), k ≤ F.kids.length ∧ i = .int .i64 k ∧ s = .int .i64 y ∧ wr = ext (w.alloc (.cells #[.int .i64 F.K, .int .i64 F.L.C, .slice aT F.L.T.length capT, .slice a F.kids.length cap] 31)) x ∧ Hid (y = leftOf z (totals (F.kids.take k) + 1)) ∧ -1 ≤ y ∧ y ≤ z) (fun _ i _ => F.kids.length - (intOf i).toNat)
    case atStart => exact ⟨0, z - 1, _, by omega, rfl, rfl, (ext_of (grew_refl _)).symm, Lib.hid (by simp [totals, leftOf]; omega), by omega, by omega⟩
    case round =>
      obtain ⟨k, y, x, hk, rfl, rfl, rfl, hp, hy1, hy2⟩ := hrel
      by_cases hlt : k < F.kids.length
      · by_cases hy : 0 ≤ y
        · obtain ⟨bk, ok, cs, rfl, hbk, hF, hsz, hcell⟩ := Hc.out k hlt
          have hc0 := hcell 0 (by omega)
          have hc1 := hcell 1 (by omega)
          have hc2 := hcell 2 (by omega)
          have hc3 := hcell 3 (by omega)
          have Hm := Lib.hid (getD_of hlt)
          have Hst := Lib.hid (left_succ hlt hy hp.out)
          have Hcall := Lib.hid (fun W g => Hih.out F.kids[k] cs W y hy (by omega) (hF.mono g))
          generalize F.kids[k] = Gk at *
          obtain ⟨a1, c1, a2, c2, rfl⟩ := form_cells hF
          simp only [Nat.add_zero, List.getElem_cons_zero, List.getElem_cons_succ] at hc0 hc1 hc2 hc3
          clear hcell
          go_wp2_with fail
          refine (Hcall.out _ (by repeat (first | exact grew_refl _ | (with_reducible assumption) | refine grew_alloc ?_ _ | refine grew_ext ?_ _ | refine grew_drew ?_ | refine grew_drewN ?_ _))).mono ?_
          rintro e w' ⟨rfl, y', rfl⟩
          have hb1 := left_bd hy (total Gk)
          have Hst := Lib.hid Hst.out
          generalize leftOf y (total Gk) = r at *
          go_wp2_with fail
          go_roundw
          case rel => exact ⟨k + 1, r, _, by omega, by go_num, rfl, (ext_of (by repeat (first | exact grew_refl _ | (with_reducible assumption) | refine grew_alloc ?_ _ | refine grew_ext ?_ _ | refine grew_drew ?_ | refine grew_drewN ?_ _))).symm, Hst, by omega, by omega⟩
          case measure => simp [intOf]; omega
        · have Hp := Lib.hid (left_end (F := F) hy hp.out)
          clear hp
          go_wp2_with fail
          go_ret
          exact ⟨by rw [← Hp.out]; rfl, ext_intro (by repeat (first | exact grew_refl _ | (with_reducible assumption) | refine grew_alloc ?_ _ | refine grew_ext ?_ _ | refine grew_drew ?_ | refine grew_drewN ?_ _))⟩
      · obtain rfl : k = F.kids.length := by omega
        have Hp := Lib.hid (show y = leftOf z (total F) by have := hp.out; rw [List.take_length] at this; rw [total_eq]; exact this)
        clear hp
        by_cases hy : 0 ≤ y
        all_goals
          go_wp2_with fail
          go_ret
          exact ⟨by rw [← Hp.out]; rfl, ext_intro (by repeat (first | exact grew_refl _ | (with_reducible assumption) | refine grew_alloc ?_ _ | refine grew_ext ?_ _ | refine grew_drew ?_ | refine grew_drewN ?_ _))⟩
where
  left_succ {F : Form} {k : Nat} {y z : Int} (h : k < F.kids.length) (hy : 0 ≤ y) (hp : y = leftOf z (totals (F.kids.take k) + 1)) : leftOf y (total F.kids[k]) = leftOf z (totals (F.kids.take (k + 1)) + 1) := by
    have := totals_take_succ h
    unfold leftOf at *
    split at hp <;> split <;> split <;> omega
  left_bd {y : Int} (hy : 0 ≤ y) (t : Nat) : -1 ≤ leftOf y t ∧ leftOf y t ≤ y := by unfold leftOf; split <;> omega
  left_end {F : Form} {k : Nat} {y z : Int} (hy : ¬ 0 ≤ y) (hp : y = leftOf z (totals (F.kids.take k) + 1)) : y = leftOf z (total F) := by
    have := totals_le (ks := F.kids) k
    rw [total_eq]
    unfold leftOf at *
    split at hp <;> split <;> omega
end Go.Proofs.Ytdieipdbkpcgmaa
