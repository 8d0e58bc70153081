/- FormLong: a formula of as many parts as may be is sound, one of more isn't: for every number of parts. -/
import Derived.Test.YtdieipdbkpcgmaaUp
import Derived.Test.YtdieipdbkpcgmaaMake
namespace Go.Proofs.Ytdieipdbkpcgmaa
set_option linter.unusedSimpArgs false
set_option linter.unusedVariables false
open Go.RowKit

def leaf : Form := ⟨0, ⟨0, []⟩, []⟩
def wideF (n : Nat) : Form := ⟨5, ⟨0, []⟩, List.replicate n leaf⟩
theorem wide_deep (n : Nat) : deepN 64 (wideF n) = false := by
  simp only [deepN, wideF, List.any_eq_false]
  intro x hx
  rw [(List.mem_replicate.1 hx).2]
  decide
theorem totals_rep (n : Nat) : totals (List.replicate n leaf) = n := by
  induction n with
  | zero => rfl
  | succ n ih => rw [List.replicate_succ, totals, ih]; simp [total, leaf, totals]; omega
theorem wide_total (n : Nat) : total (wideF n) = n + 1 := by rw [total_eq]; simp [wideF, totals_rep]
theorem fineAll_rep (n : Nat) : fineAll (List.replicate n leaf) = true := by
  induction n with
  | zero => rfl
  | succ n ih => rw [List.replicate_succ, fineAll, ih]; simp [fineB, leaf]
theorem wide_fine (n : Nat) : fineB (wideF n) = true := by simp [fineB, wideF, fineAll_rep]
theorem wide_ok {n : Nat} (h : n ≤ 4095) : formErr (wideF n) = 0 := fe_none (wide_deep n) (by rw [wide_total]; omega) (wide_fine n)
theorem wide_long {n : Nat} (h : 4095 < n) : formErr (wideF n) = 2 := fe_long (wide_deep n) (by rw [wide_total]; omega)

theorem info_form : (Try.prog.info? 31).map (fun i => (i.zero, i.size, i.bytes)) = some (some (.agg #[.int .i64 0, .int .i64 0, .slice none 0 0, .slice none 0 0]), 4, 64) := by kernel_rfl

theorem leaf_form {W : World} : IsForm W 1 leaf [.int .i64 0, .int .i64 0, .slice none 0 0, .slice none 0 0] :=
  ⟨by unfold I64 leaf; decide, _, _, rfl, ⟨by unfold I64 leaf; decide, sliceOf_nil _ _ _⟩, sliceOf_nil _ _ _⟩
theorem wide_form {W : World} {B n : Nat} {v : Value} (hn : n ≤ 10000) (hown : W.ownsRow B 31 4 v n (List.replicate n [Value.int .i64 0, .int .i64 0, .slice none 0 0, .slice none 0 0]).flatten) :
    IsForm W 2 (wideF n) [.int .i64 5, .int .i64 0, .slice none 0 0, v] := by
  refine ⟨by unfold I64 wideF; simp, _, _, rfl, ⟨by unfold I64 wideF; simp, sliceOf_nil _ _ _⟩, ?_⟩
  refine sliceOf_own (by decide) (B := B) (e := 31) (xs := List.replicate n [Value.int .i64 0, .int .i64 0, .slice none 0 0, .slice none 0 0]) (by simpa [wideF] using hown) (by simp [wideF]) (fun i hi h' => ?_) (by simp [wideF]; omega)
  simp only [wideF, List.getElem_replicate]
  exact ⟨leaf_form, rfl⟩

set_option maxHeartbeats 2000000 in
theorem formLong_walk (n : Int) (w : World) : Calls Try.prog 3 #[.int .i64 n] w fun e w' => e = .returned (.bool true) ∧ ∃ x, w' = ext w x := by
  have he := eql_code
  obtain ⟨k, hk, hn⟩ : ∃ k : Nat, k ≤ 10000 ∧ (((n < 0 ∨ 10000 < n) ∧ k = 5) ∨ (¬ n < 0 ∧ ¬ 10000 < n ∧ n = k)) := by
    by_cases h : n < 0 ∨ 10000 < n
    · exact ⟨5, by omega, .inl ⟨h, rfl⟩⟩
    · exact ⟨n.toNat, by omega, .inr ⟨by omega, by omega, by omega⟩⟩
  have H := Lib.hid (fun (W : World) B v hown => formCheck_any (w := W) (wide_form (W := W) (B := B) (v := v) hk hown))
  by_cases hlong : 4095 < k
  · rw [wide_long hlong, errV_pos (by decide)] at H
    obtain ⟨h1, h2, rfl⟩ : ¬ n < 0 ∧ ¬ 10000 < n ∧ n = k := by omega
    clear hn
    go_enter Try.func3, Try.ntmps3
    go_wp2_with (first | (go_at_call 9; refine (up_any _).mono ?_; rintro e w' ⟨rfl, y, rfl⟩) | (at_make; refine wpList_mk rfl _ _ 26 rfl 31 _ 4 64 Try.underlying26 info_form rfl (by decide) k rfl rfl (by first | rfl | omega) (by first | rfl | omega) (by omega) (by omega) ?_; intro y2 hown) | fail)
    refine (H.out _ _ _ hown).mono ?_
    rintro e w' ⟨rfl, y3, rfl⟩
    clear hown
    go_wp2_with fail
    go_ret
    exact ⟨rfl, ext_intro (by repeat (first | exact grew_refl _ | (with_reducible assumption) | refine grew_alloc ?_ _ | refine grew_ext ?_ _ | refine grew_drew ?_ | refine grew_drewN ?_ _))⟩
  · rw [wide_ok (by omega), errV_zero] at H
    rcases hn with ⟨h | h, rfl⟩ | ⟨h1, h2, rfl⟩
    · go_enter Try.func3, Try.ntmps3
      go_wp2_with (first | (go_at_call 9; refine (up_any _).mono ?_; rintro e w' ⟨rfl, y, rfl⟩) | (at_make; refine wpList_mk rfl _ _ 26 rfl 31 _ 4 64 Try.underlying26 info_form rfl (by decide) 5 rfl rfl (by first | rfl | omega) (by first | rfl | omega) (by omega) (by omega) ?_; intro y2 hown) | fail)
      refine (H.out _ _ _ hown).mono ?_
      rintro e w' ⟨rfl, y3, rfl⟩
      clear hown
      go_wp2_with fail
      go_ret
      exact ⟨rfl, ext_intro (by repeat (first | exact grew_refl _ | (with_reducible assumption) | refine grew_alloc ?_ _ | refine grew_ext ?_ _ | refine grew_drew ?_ | refine grew_drewN ?_ _))⟩
    · go_enter Try.func3, Try.ntmps3
      go_wp2_with (first | (go_at_call 9; refine (up_any _).mono ?_; rintro e w' ⟨rfl, y, rfl⟩) | (at_make; refine wpList_mk rfl _ _ 26 rfl 31 _ 4 64 Try.underlying26 info_form rfl (by decide) 5 rfl rfl (by first | rfl | omega) (by first | rfl | omega) (by omega) (by omega) ?_; intro y2 hown) | fail)
      refine (H.out _ _ _ hown).mono ?_
      rintro e w' ⟨rfl, y3, rfl⟩
      clear hown
      go_wp2_with fail
      go_ret
      exact ⟨rfl, ext_intro (by repeat (first | exact grew_refl _ | (with_reducible assumption) | refine grew_alloc ?_ _ | refine grew_ext ?_ _ | refine grew_drew ?_ | refine grew_drewN ?_ _))⟩
    · go_enter Try.func3, Try.ntmps3
      go_wp2_with (first | (go_at_call 9; refine (up_any _).mono ?_; rintro e w' ⟨rfl, y, rfl⟩) | (at_make; refine wpList_mk rfl _ _ 26 rfl 31 _ 4 64 Try.underlying26 info_form rfl (by decide) k rfl rfl (by first | rfl | omega) (by first | rfl | omega) (by omega) (by omega) ?_; intro y2 hown) | fail)
      refine (H.out _ _ _ hown).mono ?_
      rintro e w' ⟨rfl, y3, rfl⟩
      clear hown
      go_wp2_with fail
      go_ret
      exact ⟨rfl, ext_intro (by repeat (first | exact grew_refl _ | (with_reducible assumption) | refine grew_alloc ?_ _ | refine grew_ext ?_ _ | refine grew_drew ?_ | refine grew_drewN ?_ _))⟩
end Go.Proofs.Ytdieipdbkpcgmaa
