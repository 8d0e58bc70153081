/- ParseDeep, in K. -/
import Derived.Test.YtpkcgdikbjaoaaaGreatDoorZ36
import Derived.Test.YtpkcgdikbjaoaaaGreatDoorZ39
import Derived.Test.YtpkcgdikbjaoaaaGreatDoorZ40
namespace Go.Proofs.YtpkcgdikbjaoaaaGreatDoor
set_option linter.unusedSimpArgs false
set_option linter.unusedVariables false
open Go.RowKit
theorem wO {α : Type} (S : α → ba) (P : α → Prop) {E : Env} {c : Code} {Q : Exit → ba → Prop} {G : Prop} (use : (∀ a, P a → awl E c Q (S a)) → G) (key : ∀ a, P a → awl E c Q (S a)) : G := use key
theorem vZ (d : Dp) (i : Nat) : inB d (i + 1) = d.fB ++ inB d i ++ d.tB := by
  unfold inB
  rw [tg d.tB, rp]
  simp only [List.append_assoc]
def bC : Nat → List Nat
  | 0 => [0, 1]
  | 1 => [0, 1]
  | 2 => [0, 1, 5]
  | 3 => [1, 5]
  | 4 => [0, 1, 5]
  | 5 => [0, 5, 6]
  | 6 => [0, 5, 6]
  | 7 => [0, 5, 6]
  | 8 => [0, 5, 6, 7]
  | 9 => [0, 5, 6, 7, 8]
  | 10 => [0, 5, 6, 7, 8, 9]
  | 11 => [0, 5, 6, 7, 8, 9, 10]
  | 12 => [0, 5, 6, 7, 8, 9, 10]
  | 13 => [0, 5, 6, 7, 8, 9, 10]
  | 14 => [0, 5, 6, 9]
  | 15 => [0, 5, 6, 9, 11]
  | 16 => [0, 5, 6, 9]
  | 17 => [0, 5, 6, 9, 11]
  | 18 => [0, 5, 9]
  | 19 => [0, 5, 11]
  | 20 => [0, 5, 12]
  | 21 => [0, 5, 12, 13, 14]
  | 22 => [0, 5, 13, 14, 15, 16, 17]
  | _ => []
set_option maxRecDepth 100000 in
set_option maxHeartbeats 32000000 in
theorem y2 (z0 z : Int) (hz0 : -9223372036854775808 ≤ z0 ∧ z0 ≤ 9223372036854775807) (hz : -9223372036854775808 ≤ z ∧ z ≤ 9223372036854775807) : AFn Tryz.prog 4 [inA z0, inA z] [] (.c (.bool true)) [] := by
  have h1 := ut
  obtain ⟨n, hn, hc⟩ : ∃ n : Nat, n ≤ 200 ∧ ((z0 < 0) = True ∧ (200 < z0) = False ∧ n = 3 ∨ (z0 < 0) = False ∧ (200 < z0) = True ∧ n = 3 ∨ (z0 < 0) = False ∧ (200 < z0) = False ∧ z0 = (n : Int)) := by
    by_cases ha : z0 < 0
    · exact ⟨3, by omega, .inl ⟨eq_true ha, eq_false (by omega), rfl⟩⟩
    by_cases hb : 200 < z0
    · exact ⟨3, by omega, .inr (.inl ⟨eq_false ha, eq_true hb, rfl⟩)⟩
    · exact ⟨z0.toNat, by omega, .inr (.inr ⟨eq_false ha, eq_false hb, by omega⟩)⟩
  have hm : z.tmod 5 = 0 ∨ z.tmod 5 = 1 ∨ z.tmod 5 = 2 ∨ z.tmod 5 = 3 ∨ z.tmod 5 = 4 ∨ z.tmod 5 = -1 ∨ z.tmod 5 = -2 ∨ z.tmod 5 = -3 ∨ z.tmod 5 = -4 := by
    have := Int.tmod_lt_of_pos z (b := 5) (by decide)
    have := Int.lt_tmod_of_pos z (b := 5) (by decide)
    omega
  have w1 : IntKind.i64.wrap 1 = 1 := rfl
  have w2 : IntKind.i64.wrap 2 = 2 := rfl
  have w3 : IntKind.i64.wrap 3 = 3 := rfl
  have w4 : IntKind.i64.wrap 4 = 4 := rfl
  refine aK [] Tryz.func4 rfl Tryz.ntmps4 (Nat.le_of_ble_eq_true rfl) (Nat.le_of_ble_eq_true rfl) fun w0 G0 B0 Pr hB0 => ?_
  simp only [aQ, aI, List.cons_append, List.nil_append]
  apply wO (α := Nat × Nat) (fun p => [(0, inA (p.1 : Int)), (5, .c (.bool true)), (6, inA (p.2 : Int)), (7, bs (dp p.2).fB), (8, bs (dp p.2).tB), (9, bs (dp p.2).iB), (10, inA 0)]) (fun p => p.1 ≤ 200 ∧ p.2 < 5)
  case use =>
    intro key
    rcases hc with ⟨ha, hb, h3⟩ | ⟨ha, hb, h3⟩ | ⟨ha, hb, h3⟩ <;> rcases hm with hm | hm | hm | hm | hm | hm | hm | hm | hm
    all_goals (try subst h3)
    all_goals
      repeat' (first | (with_reducible refine hY _ ?_; clear hY Y) | ((with_reducible first | refine av rfl (aD fun K' hK' => ab ?_) | refine hK' _ (ac fun Y hY => ab ?_) | refine bR rfl (ac fun Y hY => ab ?_) | refine ac fun Y hY => ab ?_ | refine aD fun K' hK' => ab ?_ | refine ae tk0 bC (ac fun Y hY => ab ?_) | refine ab ?_ | refine ap ?_ | refine bY rfl (bI fun K' hK' => ab ?_) | refine hK' _ _ (ac fun Y hY => ab ?_) | refine cJ rfl (ac fun Y hY => ab ?_) | refine bI fun K' hK' => ab ?_ | refine bX ?_); (try clear hK' K'); (try dsimp only [aop]); try simp only [go_sem, ↓reduceIte, Nat.reduceEqDiff, Nat.reduceLT, Nat.reduceLeDiff, Nat.reduceAdd, Nat.reduceSub, Nat.reduceMul, Nat.reduceBEq, Nat.reduceBNe, Nat.reducePow, Int.reduceToNat, Int.reduceLE, Int.reduceLT, Int.reduceMul, Int.reduceEq, Int.reducePow, Int.reduceAdd, Int.reduceSub, Int.reduceNeg, reduceCtorEq, bC, Tryz.results4, ha, hb, hm, w1, w2, w3, w4]) | (with_reducible first | refine ai ?_ | refine bj rfl ?_ | refine aS ?_ | refine cp ?_ | refine dk ?_ ?_ | refine al ?_ | refine am ?_ | refine aL fun K hK => ?_ | refine ax ?_ | refine ar ?_ | refine bN ?_ | refine bg ?_ | refine aO ?_ | refine bL ?_ | refine bo ?_ | refine aq ?_ | refine aC ?_ | refine az ?_ | refine bq ?_ | refine bx ?_ | refine b8 ?_ | refine b7 ?_ | refine bl ?_ | refine dq fun K hK => ?_) | (with_reducible refine hK _ ?_; clear hK K) | (with_reducible refine hK _ _ ?_ ?_; (· kernel_rfl); clear hK K) | ((with_reducible first | refine aR ?_ ?_ | refine ah ?_ ?_ | refine cR ?_ ?_); (· decide)) | (with_reducible refine bm tk0 bC ?_ ?_; (· kernel_rfl)) | ((with_reducible first | refine bK (fun hc => ?_) (fun hc => ?_) | refine bV (fun hc => ?_) (fun hc => ?_)) <;> (try simp only [decide_eq_true_eq, decide_eq_false_iff_not, Bool.not_true, Bool.not_false, Bool.not_eq_true', Bool.not_eq_false'] at hc) <;> (try (exfalso; omega))) | (with_reducible refine bQ ?_ ?_; (· (try and_intros) <;> first | omega | assumption | (simp only [List.length_append, List.length_map, List.length_cons, List.length_nil] <;> omega))) | (with_reducible refine aa (h1) ?_) | (with_reducible refine cS ?_) | fail)
    all_goals refine bA [0, 5, 6, 7, 8, 9, 10] (by simp only [go_sem, ↓reduceIte, Nat.reduceEqDiff, Nat.reduceLT, Nat.reduceLeDiff, Nat.reduceAdd, Nat.reduceSub, Nat.reduceMul, Nat.reduceBEq, Nat.reduceBNe, Nat.reducePow, Int.reduceToNat, Int.reduceLE, Int.reduceLT, Int.reduceMul, Int.reduceEq, Int.reducePow, Int.reduceAdd, Int.reduceSub, Int.reduceNeg, reduceCtorEq]; exact rfl) ?_
    all_goals first | exact key (_, 0) ⟨hn, Nat.le_of_ble_eq_true rfl⟩ | exact key (_, 1) ⟨hn, Nat.le_of_ble_eq_true rfl⟩ | exact key (_, 2) ⟨hn, Nat.le_of_ble_eq_true rfl⟩ | exact key (_, 3) ⟨hn, Nat.le_of_ble_eq_true rfl⟩ | exact key (_, 4) ⟨hn, Nat.le_of_ble_eq_true rfl⟩
  case key =>
    clear hc hn n hm hz0 hz z0 z
    rintro ⟨n, k⟩ ⟨hn, hk⟩
    simp only at hn hk ⊢
    obtain ⟨P, b, E, e, a, h2, h3, h4, h5, h6⟩ := uI (jR (dp k) n)
    have hlaw := wo hk hn
    have hE : (E = .c .nilIface ∧ n < 52) ∨ ((E = .ifc 52 (inA (e : Int)) ∨ E = .ifc 74 (.rf [inA a, .ifc 52 (inA (e : Int))] 0)) ∧ 40 < n) := by
      have hsz : (cX (jR (dp k) n)).2.1 = 0 := by
        obtain ⟨b, hb⟩ := qI (v9 k) n (qr k hn)
        rw [hb]
      rcases h6 with ⟨h7, _, h8⟩ | ⟨h8, h7⟩
      · exact .inl ⟨h7, Nat.lt_of_not_le fun h => hlaw.2 h h8⟩
      · exact .inr ⟨h7, Nat.lt_of_not_le fun h => h8.elim (fun h9 => h9 hsz) (fun h9 => h9 (hlaw.1 h))⟩
    clear h6 hlaw
    refine cw (α := Nat) (fun i => [(0, inA (n : Int)), (5, .c (.bool true)), (6, inA (k : Int)), (7, bs (dp k).fB), (8, bs (dp k).tB), (9, bs (inB (dp k) i)), (10, inA (i : Int))])
      (fun i => i ≤ n) (fun i => n - i) 0 [0, 5, 6, 7, 8, 9, 10] ?_ (Nat.zero_le _) ?_
    · rw [show inB (dp k) 0 = (dp k).iB by simp [inB, rp]]
      simp only [go_sem, ↓reduceIte, Nat.reduceEqDiff, Nat.reduceLT, Nat.reduceLeDiff, Nat.reduceAdd, Nat.reduceSub, Nat.reduceMul, Nat.reduceBEq, Nat.reduceBNe, Nat.reducePow, Int.reduceToNat, Int.reduceLE, Int.reduceLT, Int.reduceMul, Int.reduceEq, Int.reducePow, Int.reduceAdd, Int.reduceSub, Int.reduceNeg, reduceCtorEq] <;> rfl
    have hsm := nW k
    intro i hi ih
    have hXl : (inB (dp k) i).length ≤ 5000 := by
      have h7 : i * (dp k).fB.length ≤ 200 * 10 := Nat.mul_le_mul (by omega) hsm.1
      have h8 : i * (dp k).tB.length ≤ 200 * 11 := Nat.mul_le_mul (by omega) hsm.2.1
      simp only [inB, List.length_append, oX]
      omega
    by_cases hlt : i < n
    · have hlt' : ((i : Int) < (n : Int)) = True := eq_true (by omega)
      have hkw : IntKind.i64.wrap ((i : Int) + 1) = ((i + 1 : Nat) : Int) := by rw [bO (by omega) (by omega)]; rfl
      have hX := vZ (dp k) i
      have ih' := ih (i + 1) (by omega) (by omega)
      rw [hX] at ih'
      clear ih hE h2 h3 h4 h5 h1 hX
      have hFl := hsm.1
      have hTl := hsm.2.1
      clear hsm
      generalize (dp k).fB = F at *
      generalize (dp k).tB = T at *
      generalize inB (dp k) i = X at *
      repeat' (first | (with_reducible refine hY _ ?_; clear hY Y) | ((with_reducible first | refine av rfl (aD fun K' hK' => ab ?_) | refine hK' _ (ac fun Y hY => ab ?_) | refine bR rfl (ac fun Y hY => ab ?_) | refine ac fun Y hY => ab ?_ | refine aD fun K' hK' => ab ?_ | refine ae tk0 bC (ac fun Y hY => ab ?_) | refine ab ?_ | refine ap ?_ | refine bY rfl (bI fun K' hK' => ab ?_) | refine hK' _ _ (ac fun Y hY => ab ?_) | refine cJ rfl (ac fun Y hY => ab ?_) | refine bI fun K' hK' => ab ?_ | refine bX ?_); (try clear hK' K'); (try dsimp only [aop]); try simp only [go_sem, ↓reduceIte, Nat.reduceEqDiff, Nat.reduceLT, Nat.reduceLeDiff, Nat.reduceAdd, Nat.reduceSub, Nat.reduceMul, Nat.reduceBEq, Nat.reduceBNe, Nat.reducePow, Int.reduceToNat, Int.reduceLE, Int.reduceLT, Int.reduceMul, Int.reduceEq, Int.reducePow, Int.reduceAdd, Int.reduceSub, Int.reduceNeg, reduceCtorEq, bC, Tryz.results4, hlt', hkw]) | (with_reducible first | refine ai ?_ | refine bj rfl ?_ | refine aS ?_ | refine cp ?_ | refine dk ?_ ?_ | refine al ?_ | refine am ?_ | refine aL fun K hK => ?_ | refine ax ?_ | refine ar ?_ | refine bN ?_ | refine bg ?_ | refine aO ?_ | refine bL ?_ | refine bo ?_ | refine aq ?_ | refine aC ?_ | refine az ?_ | refine bq ?_ | refine bx ?_ | refine b8 ?_ | refine b7 ?_ | refine bl ?_ | refine dq fun K hK => ?_) | (with_reducible refine hK _ ?_; clear hK K) | (with_reducible refine hK _ _ ?_ ?_; (· kernel_rfl); clear hK K) | ((with_reducible first | refine aR ?_ ?_ | refine ah ?_ ?_ | refine cR ?_ ?_); (· decide)) | (with_reducible refine bm tk0 bC ?_ ?_; (· kernel_rfl)) | ((with_reducible first | refine bK (fun hc => ?_) (fun hc => ?_) | refine bV (fun hc => ?_) (fun hc => ?_)) <;> (try simp only [decide_eq_true_eq, decide_eq_false_iff_not, Bool.not_true, Bool.not_false, Bool.not_eq_true', Bool.not_eq_false'] at hc) <;> (try (exfalso; omega))) | (with_reducible refine bQ ?_ ?_; (· (try and_intros) <;> first | omega | assumption | (simp only [List.length_append, List.length_map, List.length_cons, List.length_nil] <;> omega))) | (with_reducible refine be (ta _ _ ?_) ?_; (· (try simp only [List.length_append, List.length_cons, List.length_nil]); omega)) | (with_reducible refine cS ?_) | fail)
      refine bA [0, 5, 6, 7, 8, 9, 10] (by simp only [go_sem, ↓reduceIte, Nat.reduceEqDiff, Nat.reduceLT, Nat.reduceLeDiff, Nat.reduceAdd, Nat.reduceSub, Nat.reduceMul, Nat.reduceBEq, Nat.reduceBNe, Nat.reducePow, Int.reduceToNat, Int.reduceLE, Int.reduceLT, Int.reduceMul, Int.reduceEq, Int.reducePow, Int.reduceAdd, Int.reduceSub, Int.reduceNeg, reduceCtorEq]; exact rfl) ?_
      exact ih'
    · obtain rfl : i = n := by omega
      have hlt' : ((i : Int) < (i : Int)) = False := eq_false (by omega)
      clear ih hi hlt
      have hk5 : k = 0 ∨ k = 1 ∨ k = 2 ∨ k = 3 ∨ k = 4 := by omega
      clear hsm
      obtain ⟨X, hX⟩ : ∃ X, X = inB (dp k) i := ⟨_, rfl⟩
      rw [← hX] at hXl
      obtain ⟨S, hS⟩ : ∃ S, S = jR (dp k) i := ⟨_, rfl⟩
      rw [← hS] at h2 h3
      rw [← hX]
      unfold jR at hS
      rw [← hX] at hS
      generalize (dp k).fB = F at *
      generalize (dp k).tB = T at *
      rcases hk5 with rfl | rfl | rfl | rfl | rfl
      all_goals simp only [hdB, dp, yD, yV, go_sem, ↓reduceIte, Nat.reduceEqDiff, Nat.reduceLT, Nat.reduceLeDiff, Nat.reduceAdd, Nat.reduceSub, Nat.reduceMul, Nat.reduceBEq, Nat.reduceBNe, Nat.reducePow, Int.reduceToNat, Int.reduceLE, Int.reduceLT, Int.reduceMul, Int.reduceEq, Int.reducePow, Int.reduceAdd, Int.reduceSub, Int.reduceNeg, reduceCtorEq] at hS
      all_goals rcases hE with ⟨rfl, h8⟩ | ⟨rfl | rfl, h8⟩
      all_goals first
        | (have h9 : ((i : Int) < 52) = True := eq_true (by omega); clear h8)
        | (have h9 : ((40 : Int) < (i : Int)) = True := eq_true (by omega); clear h8)
      all_goals
        repeat' (first | (with_reducible refine hY _ ?_; clear hY Y) | ((with_reducible first | refine av rfl (aD fun K' hK' => ab ?_) | refine hK' _ (ac fun Y hY => ab ?_) | refine bR rfl (ac fun Y hY => ab ?_) | refine ac fun Y hY => ab ?_ | refine aD fun K' hK' => ab ?_ | refine ae tk0 bC (ac fun Y hY => ab ?_) | refine ab ?_ | refine ap ?_ | refine bY rfl (bI fun K' hK' => ab ?_) | refine hK' _ _ (ac fun Y hY => ab ?_) | refine cJ rfl (ac fun Y hY => ab ?_) | refine bI fun K' hK' => ab ?_ | refine bX ?_); (try clear hK' K'); (try dsimp only [aop]); try simp only [go_sem, ↓reduceIte, Nat.reduceEqDiff, Nat.reduceLT, Nat.reduceLeDiff, Nat.reduceAdd, Nat.reduceSub, Nat.reduceMul, Nat.reduceBEq, Nat.reduceBNe, Nat.reducePow, Int.reduceToNat, Int.reduceLE, Int.reduceLT, Int.reduceMul, Int.reduceEq, Int.reducePow, Int.reduceAdd, Int.reduceSub, Int.reduceNeg, reduceCtorEq, bC, Tryz.results4, hlt', ← hS, h9]) | (with_reducible first | refine ai ?_ | refine bj rfl ?_ | refine aS ?_ | refine cp ?_ | refine dk ?_ ?_ | refine al ?_ | refine am ?_ | refine aL fun K hK => ?_ | refine ax ?_ | refine ar ?_ | refine bN ?_ | refine bg ?_ | refine aO ?_ | refine bL ?_ | refine bo ?_ | refine aq ?_ | refine aC ?_ | refine az ?_ | refine bq ?_ | refine bx ?_ | refine b8 ?_ | refine b7 ?_ | refine bl ?_ | refine dq fun K hK => ?_) | (with_reducible refine hK _ ?_; clear hK K) | (with_reducible refine hK _ _ ?_ ?_; (· kernel_rfl); clear hK K) | ((with_reducible first | refine aR ?_ ?_ | refine ah ?_ ?_ | refine cR ?_ ?_); (· decide)) | (with_reducible refine bm tk0 bC ?_ ?_; (· kernel_rfl)) | ((with_reducible first | refine bK (fun hc => ?_) (fun hc => ?_) | refine bV (fun hc => ?_) (fun hc => ?_)) <;> (try simp only [decide_eq_true_eq, decide_eq_false_iff_not, Bool.not_true, Bool.not_false, Bool.not_eq_true', Bool.not_eq_false'] at hc) <;> (try (exfalso; omega))) | (with_reducible refine bQ ?_ ?_; (· (try and_intros) <;> first | omega | assumption | (simp only [List.length_append, List.length_map, List.length_cons, List.length_nil] <;> omega))) | (with_reducible refine aa (h2) ?_) | (with_reducible refine aa (h3) ?_) | (with_reducible refine aa (h4) ?_) | (with_reducible refine aa (h5) ?_) | (with_reducible refine be (fb) ?_) | (with_reducible refine be (ta _ _ ?_) ?_; (· (try simp only [List.length_append, List.length_cons, List.length_nil]); omega)) | (with_reducible refine cS ?_) | fail)
end Go.Proofs.YtpkcgdikbjaoaaaGreatDoor
