/- What the statements ask of errors, and of a formula's size; what is amiss with a formula, by the document. -/
import Derived.Test.YtdieipdbkpcgmaaRefC
import Derived.BigGuardPart
namespace Go.Proofs.Ytdieipdbkpcgmaa
set_option linter.unusedSimpArgs false
set_option linter.unusedVariables false
open Go.RowKit

theorem run_equalIn_iface_int {P : Program} (w : World) (d : Nat) {ti tn : TypeId} {ms : Array (String × TypeId)} {i : TypeInfo} {k : IntKind} (a b : Int)
    (hi : P.underlying ti = some (.interface ms)) (hn : P.underlying tn = some (.int k)) (hinfo : P.info? tn = some i) (hcomp : i.comparable = true) :
    (Op.equalIn (d + 2) ti (.iface tn (.int k a)) (.iface tn (.int k b))).run P w = .ok (a == b) w := by
  simp [Op.equalIn, run_underlying hi, run_underlying hn, typeInfo, hinfo, hcomp]
theorem run_eql_iface_int {P : Program} (w : World) {ti tn : TypeId} {ms : Array (String × TypeId)} {i : TypeInfo} {k : IntKind} (a b : Int)
    (hi : P.underlying ti = some (.interface ms)) (hn : P.underlying tn = some (.int k)) (hinfo : P.info? tn = some i) (hcomp : i.comparable = true) :
    (binOp .eql ti (.iface tn (.int k a)) (.iface tn (.int k b))).run P w = .ok (.bool (a == b)) w := by
  simp only [binOp]
  simp [Op.equal, Op.maxDepth, run_equalIn_iface_int w 9998 a b hi hn hinfo hcomp]

theorem code_info : (Try.prog.info? 32).map (fun i => i.comparable) = some true := by kernel_rfl
/-- Two errors that are codes, held against each other. -/
theorem eql_code (w : World) (a b : Int) : (binOp .eql 24 (.iface 32 (.int .i64 a)) (.iface 32 (.int .i64 b))).run Try.prog w = .ok (.bool (a == b)) w := by
  obtain ⟨i, hi, hc⟩ := Option.map_eq_some_iff.1 code_info
  exact run_eql_iface_int w a b Try.underlying24 Try.underlying32 hi hc

set_option maxHeartbeats 1000000 in
theorem code_any (n : Int) (h1 : 0 ≤ n) (h2 : n ≤ 16) (w : World) :
    Calls Try.prog 14 #[errV n] w fun e w' => e = .returned (.int .i64 n) ∧ w = w' := by
  by_cases h0 : n = 0
  · subst h0
    rw [errV_zero]
    go_enter Try.func14, Try.ntmps14
    go_wp2_with fail
    go_ret
    exact ⟨rfl, rfl⟩
  · rw [errV_pos h0]
    have h3 : 1 ≤ n := by omega
    clear h0
    have he := eql_code
    go_enter Try.func14, Try.ntmps14
    go_wp2_with fail
    go_loop [3] (fun c => ∃ k : Int, 1 ≤ k ∧ k ≤ n ∧ c = .int .i64 k) (fun c => (17 - intOf c).toNat)
    case atStart => exact ⟨1, by omega, by omega, rfl⟩
    case round =>
      obtain ⟨k, hk1, hk2, rfl⟩ := hrel
      by_cases hk : k = n
      · subst hk
        go_wp2_with fail
        go_ret
        exact ⟨rfl, rfl⟩
      · have hne : (n == k) = false := by simp; omega
        go_wp2_with fail
        go_round
        case rel => exact ⟨k + 1, by omega, by omega, by go_num⟩
        case measure => simp [intOf]; omega

def SomeLeft (z : Int) (w : World) (e : Ending) (w' : World) : Prop := ∃ r : Int, e = .returned (.int .i64 r) ∧ -1 ≤ r ∧ r ≤ z ∧ ∃ x, w' = ext w x
def LightSaid (n : Nat) : Prop := ∀ (F : Form) (cs : List Value) (z d : Int) (w : World), 0 ≤ z → z ≤ 1000000000 → 0 ≤ d → d ≤ 1000000000 → IsForm w n F cs →
  Calls Try.prog 19 #[.agg cs.toArray, .int .i64 z, .int .i64 d] w (SomeLeft z w)

set_option maxRecDepth 100000 in
set_option maxHeartbeats 4000000 in
theorem light_step (n : Nat) (ih : LightSaid n) : LightSaid (n + 1) := fun F cs z d w hz1 hz2 hd1 hd2 h => by
  have Hih := Lib.hid ih
  obtain ⟨hK, vT, vK, rfl, ⟨hC, aT, capT, rfl, hlT, hcapT, hcT⟩, a, cap, rfl, hl, hcap, hc⟩ := h
  have Hc := Lib.hid hc; clear hc hcT
  have hd0 : (d == 0) = decide (d = 0) := by rw [Bool.eq_iff_iff]; simp
  by_cases hok : d ≠ 0 ∧ 1 ≤ z ∧ (F.L.T.length : Int) ≤ z - 1 ∧ (F.kids.length : Int) ≤ z - 1
  · obtain ⟨g1, g2, g3, g4⟩ := hok
    have g1 : (d == 0) = false := by simp; exact g1
    have g1' : 1 ≤ d := by simp at g1; omega
    clear hd0
    go_enter Try.func19, Try.ntmps19
    go_wp2_with fail
    go_loopw [1, 7] (fun s i wr => ∃ (k : Nat) (y : Int) (x : World), k ≤ F.kids.length ∧ i = .int .i64 k ∧ s = .int .i64 y ∧ wr = ext (w.alloc (.cells #[.int .i64 F.K, .int .i64 F.L.C, .slice aT F.L.T.length capT, .slice a F.kids.length cap] 31)) x ∧ 0 ≤ y ∧ y ≤ z) (fun _ i _ => F.kids.length - (intOf i).toNat)
    case atStart => exact ⟨0, _, _, by omega, rfl, rfl, (ext_of (grew_refl _)).symm, by omega, by omega⟩
    case round =>
      obtain ⟨k, y, x, hk, rfl, rfl, rfl, hy1, hy2⟩ := hrel
      by_cases hlt : k < F.kids.length
      · obtain ⟨bk, ok, cs, rfl, hbk, hF, hsz, hcell⟩ := Hc.out k hlt
        have hc0 := hcell 0 (by omega)
        have hc1 := hcell 1 (by omega)
        have hc2 := hcell 2 (by omega)
        have hc3 := hcell 3 (by omega)
        have Hm := Lib.hid (getD_of hlt)
        have Hcall := Lib.hid (fun W g => Hih.out F.kids[k] cs y (d - 1) W hy1 (by omega) (by omega) (by omega) (hF.mono g))
        generalize F.kids[k] = Gk at *
        obtain ⟨a1, c1, a2, c2, rfl⟩ := form_cells hF
        simp only [Nat.add_zero, List.getElem_cons_zero, List.getElem_cons_succ] at hc0 hc1 hc2 hc3
        clear hcell
        go_wp2_with fail
        refine (Hcall.out _ (by repeat (first | exact grew_refl _ | (with_reducible assumption) | refine grew_alloc ?_ _ | refine grew_ext ?_ _ | refine grew_drew ?_ | refine grew_drewN ?_ _))).mono ?_
        rintro e w' ⟨r, rfl, hr1, hr2, y', rfl⟩
        by_cases hr : r < 0
        · go_wp2_with fail
          go_ret
          exact ⟨-1, rfl, by omega, by omega, ext_intro (by repeat (first | exact grew_refl _ | (with_reducible assumption) | refine grew_alloc ?_ _ | refine grew_ext ?_ _ | refine grew_drew ?_ | refine grew_drewN ?_ _))⟩
        · go_wp2_with fail
          go_roundw
          case rel => exact ⟨k + 1, r, _, by omega, by go_num, rfl, (ext_of (by repeat (first | exact grew_refl _ | (with_reducible assumption) | refine grew_alloc ?_ _ | refine grew_ext ?_ _ | refine grew_drew ?_ | refine grew_drewN ?_ _))).symm, by omega, by omega⟩
          case measure => simp [intOf]; omega
      · go_wp2_with fail
        go_ret
        exact ⟨y, rfl, by omega, by omega, ext_intro (by repeat (first | exact grew_refl _ | (with_reducible assumption) | refine grew_alloc ?_ _ | refine grew_ext ?_ _ | refine grew_drew ?_ | refine grew_drewN ?_ _))⟩
  · have Hok := Lib.hid hok
    clear hok
    go_enter Try.func19, Try.ntmps19
    go_wp2_with fail
    all_goals first
      | (go_ret; exact ⟨-1, rfl, by omega, by omega, ext_intro (by repeat (first | exact grew_refl _ | (with_reducible assumption) | refine grew_alloc ?_ _ | refine grew_ext ?_ _ | refine grew_drew ?_ | refine grew_drewN ?_ _))⟩)
      | (exfalso; exact Hok.out ⟨by omega, by omega, by omega, by omega⟩)
theorem light_any : ∀ n : Nat, LightSaid n
  | 0 => fun _ _ _ _ _ _ _ _ _ h => h.elim
  | n + 1 => light_step n (light_any n)

/-- 'small': some Bool. -/
def SomeBool (w : World) (e : Ending) (w' : World) : Prop := ∃ t : Bool, e = .returned (.bool t) ∧ ∃ x, w' = ext w x
theorem small_any {n : Nat} {F : Form} {cs : List Value} {w : World} (h : IsForm w n F cs) :
    Calls Try.prog 11 #[.agg cs.toArray] w (SomeBool w) := by
  have Hc := Lib.hid (fun W (g : Below w.heap.size w W) => light_any n F cs 20000 200 W (by decide) (by decide) (by decide) (by decide) (h.mono g))
  obtain ⟨a1, c1, a2, c2, rfl⟩ := form_cells h
  go_enter Try.func11, Try.ntmps11
  go_wp2_with fail
  refine (Hc.out _ (by repeat (first | exact grew_refl _ | (with_reducible assumption) | refine grew_alloc ?_ _ | refine grew_ext ?_ _ | refine grew_drew ?_ | refine grew_drewN ?_ _))).mono ?_
  rintro e w' ⟨r, rfl, hr1, hr2, y', rfl⟩
  go_wp2_with fail
  go_ret
  exact ⟨_, rfl, ext_intro (by repeat (first | exact grew_refl _ | (with_reducible assumption) | refine grew_alloc ?_ _ | refine grew_ext ?_ _ | refine grew_drew ?_ | refine grew_drewN ?_ _))⟩

theorem left_lt {t : Nat} : (leftOf 4096 t < 0) = (4096 < t) := by
  unfold leftOf; split <;> simp <;> omega
theorem left_range {z : Int} (hz : 0 ≤ z) (t : Nat) : -1 ≤ leftOf z t ∧ leftOf z t ≤ z := by unfold leftOf; split <;> omega

set_option maxHeartbeats 1000000 in
theorem rFormCheck_any {n : Nat} {F : Form} {cs : List Value} {w : World} (h : IsForm w n F cs) :
    Calls Try.prog 16 #[.agg cs.toArray] w fun e w' => e = .returned (.int .i64 (formErr F)) ∧ ∃ x, w' = ext w x := by
  have Hd := Lib.hid (fun W (g : Below w.heap.size w W) => rDepth_any 64 (by decide) 64 n F cs W rfl (h.mono g))
  have Hs := Lib.hid (fun W (g : Below w.heap.size w W) => rSize_any n F cs W 4096 (by decide) (by decide) (h.mono g))
  have Hf := Lib.hid (fun W (g : Below w.heap.size w W) => rFine_any n F cs W (h.mono g))
  obtain ⟨a1, c1, a2, c2, rfl⟩ := form_cells h
  have hdd := dep_deep 64 F
  have hdl := dep_le 64 F
  by_cases hd : 64 < dep 64 F
  · have HD := Lib.hid (fe_deep (F := F) (by rw [← hdd]; simp [hd]))
    clear hdd
    generalize dep 64 F = d at *
    go_enter Try.func16, Try.ntmps16
    go_wp2_with (first | (go_at_call 31; refine (Hd.out _ (by repeat (first | exact grew_refl _ | (with_reducible assumption) | refine grew_alloc ?_ _ | refine grew_ext ?_ _ | refine grew_drew ?_ | refine grew_drewN ?_ _))).mono ?_; rintro e w' ⟨rfl, y, rfl⟩))
    go_ret
    exact ⟨by rw [HD.out]; rfl, ext_intro (by repeat (first | exact grew_refl _ | (with_reducible assumption) | refine grew_alloc ?_ _ | refine grew_ext ?_ _ | refine grew_drew ?_ | refine grew_drewN ?_ _))⟩
  · have HD := Lib.hid (show deepN 64 F = false by rw [← hdd]; simp [hd])
    clear hdd
    generalize dep 64 F = d at *
    have hl := left_range (z := 4096) (by decide) (total F)
    have hlt := left_lt (t := total F)
    by_cases ht : 4096 < total F
    · have HT := Lib.hid (fe_long HD.out ht)
      have hl0 : leftOf 4096 (total F) < 0 := by rw [hlt]; exact ht
      clear hlt ht
      generalize leftOf 4096 (total F) = r at *
      go_enter Try.func16, Try.ntmps16
      go_wp2_with (first | (go_at_call 31; refine (Hd.out _ (by repeat (first | exact grew_refl _ | (with_reducible assumption) | refine grew_alloc ?_ _ | refine grew_ext ?_ _ | refine grew_drew ?_ | refine grew_drewN ?_ _))).mono ?_; rintro e w' ⟨rfl, y, rfl⟩) | (go_at_call 17; refine (Hs.out _ (by repeat (first | exact grew_refl _ | (with_reducible assumption) | refine grew_alloc ?_ _ | refine grew_ext ?_ _ | refine grew_drew ?_ | refine grew_drewN ?_ _))).mono ?_; rintro e w' ⟨rfl, y, rfl⟩))
      go_ret
      exact ⟨by rw [HT.out]; rfl, ext_intro (by repeat (first | exact grew_refl _ | (with_reducible assumption) | refine grew_alloc ?_ _ | refine grew_ext ?_ _ | refine grew_drew ?_ | refine grew_drewN ?_ _))⟩
    · have Ht := Lib.hid ht
      have hl0 : ¬ leftOf 4096 (total F) < 0 := by rw [hlt]; exact ht
      clear hlt ht
      generalize leftOf 4096 (total F) = r at *
      rcases Bool.eq_false_or_eq_true (fineB F) with hf | hf
      · rw [hf] at Hf
        have HF := Lib.hid (fe_none HD.out Ht.out hf); clear hf
        go_enter Try.func16, Try.ntmps16
        go_wp2_with (first | (go_at_call 31; refine (Hd.out _ (by repeat (first | exact grew_refl _ | (with_reducible assumption) | refine grew_alloc ?_ _ | refine grew_ext ?_ _ | refine grew_drew ?_ | refine grew_drewN ?_ _))).mono ?_; rintro e w' ⟨rfl, y, rfl⟩) | (go_at_call 17; refine (Hs.out _ (by repeat (first | exact grew_refl _ | (with_reducible assumption) | refine grew_alloc ?_ _ | refine grew_ext ?_ _ | refine grew_drew ?_ | refine grew_drewN ?_ _))).mono ?_; rintro e w' ⟨rfl, y, rfl⟩) | (go_at_call 32; refine (Hf.out _ (by repeat (first | exact grew_refl _ | (with_reducible assumption) | refine grew_alloc ?_ _ | refine grew_ext ?_ _ | refine grew_drew ?_ | refine grew_drewN ?_ _))).mono ?_; rintro e w' ⟨rfl, y, rfl⟩))
        go_ret
        exact ⟨by rw [HF.out]; rfl, ext_intro (by repeat (first | exact grew_refl _ | (with_reducible assumption) | refine grew_alloc ?_ _ | refine grew_ext ?_ _ | refine grew_drew ?_ | refine grew_drewN ?_ _))⟩
      · rw [hf] at Hf
        have HF := Lib.hid (fe_form HD.out Ht.out hf); clear hf
        go_enter Try.func16, Try.ntmps16
        go_wp2_with (first | (go_at_call 31; refine (Hd.out _ (by repeat (first | exact grew_refl _ | (with_reducible assumption) | refine grew_alloc ?_ _ | refine grew_ext ?_ _ | refine grew_drew ?_ | refine grew_drewN ?_ _))).mono ?_; rintro e w' ⟨rfl, y, rfl⟩) | (go_at_call 17; refine (Hs.out _ (by repeat (first | exact grew_refl _ | (with_reducible assumption) | refine grew_alloc ?_ _ | refine grew_ext ?_ _ | refine grew_drew ?_ | refine grew_drewN ?_ _))).mono ?_; rintro e w' ⟨rfl, y, rfl⟩) | (go_at_call 32; refine (Hf.out _ (by repeat (first | exact grew_refl _ | (with_reducible assumption) | refine grew_alloc ?_ _ | refine grew_ext ?_ _ | refine grew_drew ?_ | refine grew_drewN ?_ _))).mono ?_; rintro e w' ⟨rfl, y, rfl⟩))
        go_ret
        exact ⟨by rw [HF.out]; rfl, ext_intro (by repeat (first | exact grew_refl _ | (with_reducible assumption) | refine grew_alloc ?_ _ | refine grew_ext ?_ _ | refine grew_drew ?_ | refine grew_drewN ?_ _))⟩
end Go.Proofs.Ytdieipdbkpcgmaa
