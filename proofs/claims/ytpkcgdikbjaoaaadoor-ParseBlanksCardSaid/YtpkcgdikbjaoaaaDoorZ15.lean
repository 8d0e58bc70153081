/- The parser in K: products, expressions. -/
import Derived.Test.YtpkcgdikbjaoaaaDoorZ14
namespace Go.Proofs.YtpkcgdikbjaoaaaDoor
set_option linter.unusedSimpArgs false
set_option linter.unusedVariables false
open Go.RowKit
theorem mR {s : PS} (h : s.kind 3 = true) : (if s.times then s.enter else s).number.2.mu < s.mu := by
  have h0 : 0 < s.mu := by
    obtain ⟨h1, t, r, h2, _⟩ := dP h
    have := ld h1 h2; omega
  split
  · by_cases he : s.enter.err = none
    · have hk : s.enter.kind 3 = true := by
        unfold PS.enter at he ⊢
        split at he
        · unfold PS.fail at he
          rw [(dP h).1] at he; cases he
        · rename_i hd; rw [if_neg hd]; exact h
      have := gw hk
      have h2 := gF s
      unfold PS.number; simp only; omega
    · have hz : s.enter.mu = 0 := by
        unfold PS.mu
        cases h4 : s.enter.err with
        | none => exact absurd h4 he
        | some x => rfl
      have := gd s.enter
      omega
  · exact gw h
def aX : Nat → List Nat
  | 0 => [0, 1]
  | 1 => [0, 1, 4]
  | 2 => [0, 1, 4, 5]
  | 3 => [0, 1, 4, 5]
  | 4 => [0, 1, 4, 5]
  | 5 => [0, 4, 5, 6]
  | 6 => [4, 6]
  | 7 => [0, 4, 6]
  | 8 => [0, 4, 6]
  | 9 => [0, 4, 6, 7]
  | 10 => [4, 6, 7]
  | _ => []
set_option maxRecDepth 100000 in
set_option maxHeartbeats 4000000 in
theorem n7 {B : Nat} {g : PS → Ex × PS} (hg : ExK 68 B g) (sign : Int) (s : PS) (hs : s.mu < B + 1) (hk : s.kind 3 = true) :
    AFn Tryd.prog 71 [.loc 20000 0, inA sign] [pA s] (.agg (exA (cY g sign s).1)) [pA (cY g sign s).2] := by
  have hlt := mR hk
  obtain ⟨he, t, r, hl, _⟩ := dP hk
  have h1 := nA s
  unfold cY
  simp only
  by_cases ht : s.times = true
  · simp only [ht, if_true] at hlt ⊢
    have h2 := jI s.enter
    have h3 := ka s.enter.number.2 [[42]] .full (by simp)
    simp only [List.map_cons, List.map_nil, List.length_cons, List.length_nil] at h3
    have hm := bi [[42]] s.enter.number.2
    have h4 := hg (s.enter.number.2.due [[42]]) (by omega)
    generalize s.enter = s1 at *
    generalize s1.number = q1 at *
    generalize q1.2.due [[42]] = s3 at *
    have h5 := fd (g s3).2
    generalize g s3 = q4 at *
    obtain ⟨⟨k4, n4, x4, ks4⟩, s4⟩ := q4
    simp only [exA] at h4 h5 ⊢
    clear hlt hm hs hk
    obtain ⟨l, e0, d, er, ok, sh⟩ := s
    simp only at he hl
    subst he
    subst hl
    unfold PS.times at ht
    simp only at ht
    split at ht
    · rename_i t0 t2 r2 heq
      obtain ⟨rfl, rfl⟩ := List.cons.inj heq
      have hlr : ((1 : Int) < (r2.length : Int) + 1 + 1) = True := eq_true (by omega)
      have hlr1 : ((1 : Int) < (r2.length : Int) + 2) = True := eq_true (by omega)
      obtain ⟨k2, a2, x2⟩ := t2
      simp only [Bool.and_eq_true, beq_iff_eq] at ht
      obtain ⟨rfl, rfl⟩ := ht
      simp only [pA, b8, go_sem, ↓reduceIte, Nat.reduceEqDiff, Nat.reduceLT, Nat.reduceLeDiff, Nat.reduceAdd, Nat.reduceSub, Nat.reduceMul, Nat.reduceBEq, Nat.reduceBNe, Nat.reducePow, Int.reduceToNat, Int.reduceLE, Int.reduceLT, Int.reduceMul, Int.reduceEq, Int.reducePow, Int.reduceAdd, Int.reduceSub, Int.reduceNeg, reduceCtorEq] at h1
      refine aM [] Tryd.func71 rfl Tryd.ntmps71 (Nat.le_of_ble_eq_true rfl) (Nat.le_of_ble_eq_true rfl) fun w0 G0 B0 Pr hB0 => ?_
      simp only [aS, aJ, List.cons_append, List.nil_append, pA]
      repeat' (first | (with_reducible refine hY _ ?_; clear hY Y) | ((with_reducible first | refine aD rfl (aN fun K' hK' => ab ?_) | refine hK' _ (ac fun Y hY => ab ?_) | refine bV rfl (ac fun Y hY => ab ?_) | refine ac fun Y hY => ab ?_ | refine aN fun K' hK' => ab ?_ | refine ae tk0 aX (ac fun Y hY => ab ?_) | refine ab ?_ | refine av ?_); (try clear hK' K'); (try dsimp only [aop]); try simp only [go_sem, ↓reduceIte, Nat.reduceEqDiff, Nat.reduceLT, Nat.reduceLeDiff, Nat.reduceAdd, Nat.reduceSub, Nat.reduceMul, Nat.reduceBEq, Nat.reduceBNe, Nat.reducePow, Int.reduceToNat, Int.reduceLE, Int.reduceLT, Int.reduceMul, Int.reduceEq, Int.reducePow, Int.reduceAdd, Int.reduceSub, Int.reduceNeg, reduceCtorEq, aX, Tryd.results71, hlr, hlr1, b8, beq_self_eq_true]) | (with_reducible first | refine aj ?_ | refine bl ?_ | refine ar ?_ | refine au ?_ | refine aT fun K hK => ?_ | refine aK ?_ | refine aC ?_ | refine aP ?_ | refine aF ?_) | (with_reducible refine hK _ ?_; clear hK K) | ((with_reducible first | refine bh ?_ ?_ | refine al ?_ ?_); (· decide)) | ((with_reducible refine cu (fun hc => ?_) (fun hc => ?_)) <;> (try simp only [decide_eq_true_eq, decide_eq_false_iff_not, Bool.not_true, Bool.not_false, Bool.not_eq_true', Bool.not_eq_false'] at hc) <;> (try (exfalso; omega))) | (with_reducible refine bT ?_ ?_; (· (try and_intros) <;> first | omega | assumption | (simp only [List.length_append, List.length_map, List.length_cons, List.length_nil] <;> omega))) | (with_reducible refine aa (h1) ?_) | (with_reducible refine aa (h2) ?_) | (with_reducible refine aa (h3) ?_) | (with_reducible refine aa (h4) ?_) | (with_reducible refine aa (h5) ?_) | (with_reducible refine bE (cm _) ?_))
      all_goals first | rfl | exact ⟨rfl, rfl⟩
    · cases ht
  · simp only [ht] at hlt ⊢
    have h2 := jI s
    simp only [Bool.false_eq_true, if_false] at hlt ⊢
    generalize s.number = q1 at *
    clear hlt h1 hk
    obtain ⟨l, e0, d, er, ok, sh⟩ := s
    simp only at he hl
    subst he
    subst hl
    simp only [pA, b8, go_sem, ↓reduceIte, Nat.reduceEqDiff, Nat.reduceLT, Nat.reduceLeDiff, Nat.reduceAdd, Nat.reduceSub, Nat.reduceMul, Nat.reduceBEq, Nat.reduceBNe, Nat.reducePow, Int.reduceToNat, Int.reduceLE, Int.reduceLT, Int.reduceMul, Int.reduceEq, Int.reducePow, Int.reduceAdd, Int.reduceSub, Int.reduceNeg, reduceCtorEq] at h2
    cases r with
    | nil =>
      simp only [go_sem, ↓reduceIte, Nat.reduceEqDiff, Nat.reduceLT, Nat.reduceLeDiff, Nat.reduceAdd, Nat.reduceSub, Nat.reduceMul, Nat.reduceBEq, Nat.reduceBNe, Nat.reducePow, Int.reduceToNat, Int.reduceLE, Int.reduceLT, Int.reduceMul, Int.reduceEq, Int.reducePow, Int.reduceAdd, Int.reduceSub, Int.reduceNeg, reduceCtorEq] at h2
      refine aM [] Tryd.func71 rfl Tryd.ntmps71 (Nat.le_of_ble_eq_true rfl) (Nat.le_of_ble_eq_true rfl) fun w0 G0 B0 Pr hB0 => ?_
      simp only [aS, aJ, List.cons_append, List.nil_append, pA]
      repeat' (first | (with_reducible refine hY _ ?_; clear hY Y) | ((with_reducible first | refine aD rfl (aN fun K' hK' => ab ?_) | refine hK' _ (ac fun Y hY => ab ?_) | refine bV rfl (ac fun Y hY => ab ?_) | refine ac fun Y hY => ab ?_ | refine ae tk0 aX (ac fun Y hY => ab ?_) | refine ab ?_ | refine av ?_); (try clear hK' K'); (try dsimp only [aop]); try simp only [go_sem, ↓reduceIte, Nat.reduceEqDiff, Nat.reduceLT, Nat.reduceLeDiff, Nat.reduceAdd, Nat.reduceSub, Nat.reduceMul, Nat.reduceBEq, Nat.reduceBNe, Nat.reducePow, Int.reduceToNat, Int.reduceLE, Int.reduceLT, Int.reduceMul, Int.reduceEq, Int.reducePow, Int.reduceAdd, Int.reduceSub, Int.reduceNeg, reduceCtorEq, aX, Tryd.results71, b8]) | (with_reducible first | refine aj ?_ | refine bW rfl ?_ | refine fa ?_ ?_ | refine ar ?_ | refine au ?_ | refine aT fun K hK => ?_ | refine aK ?_ | refine aC ?_ | refine bA ?_ | refine aP ?_ | refine aF ?_) | (with_reducible refine hK _ ?_; clear hK K) | ((with_reducible first | refine bh ?_ ?_ | refine al ?_ ?_); (· decide)) | (with_reducible refine aa (h2) ?_))
      all_goals first | rfl | exact ⟨rfl, rfl⟩
    | cons t2 r2 =>
      simp only [go_sem, ↓reduceIte, Nat.reduceEqDiff, Nat.reduceLT, Nat.reduceLeDiff, Nat.reduceAdd, Nat.reduceSub, Nat.reduceMul, Nat.reduceBEq, Nat.reduceBNe, Nat.reducePow, Int.reduceToNat, Int.reduceLE, Int.reduceLT, Int.reduceMul, Int.reduceEq, Int.reducePow, Int.reduceAdd, Int.reduceSub, Int.reduceNeg, reduceCtorEq] at h2
      have hlr : ((1 : Int) < (r2.length : Int) + 1 + 1) = True := eq_true (by omega)
      have hlr1 : ((1 : Int) < (r2.length : Int) + 2) = True := eq_true (by omega)
      obtain ⟨k2, a2, x2⟩ := t2
      unfold PS.times at ht
      simp only [Bool.and_eq_true, beq_iff_eq] at ht
      by_cases hk4 : k2 = 4
      · subst hk4
        have hx : (x2 == [42]) = false := by simpa using ht
        refine aM [] Tryd.func71 rfl Tryd.ntmps71 (Nat.le_of_ble_eq_true rfl) (Nat.le_of_ble_eq_true rfl) fun w0 G0 B0 Pr hB0 => ?_
        simp only [aS, aJ, List.cons_append, List.nil_append, pA]
        repeat' (first | (with_reducible refine hY _ ?_; clear hY Y) | ((with_reducible first | refine aD rfl (aN fun K' hK' => ab ?_) | refine hK' _ (ac fun Y hY => ab ?_) | refine bV rfl (ac fun Y hY => ab ?_) | refine ac fun Y hY => ab ?_ | refine aN fun K' hK' => ab ?_ | refine ae tk0 aX (ac fun Y hY => ab ?_) | refine ab ?_ | refine av ?_); (try clear hK' K'); (try dsimp only [aop]); try simp only [go_sem, ↓reduceIte, Nat.reduceEqDiff, Nat.reduceLT, Nat.reduceLeDiff, Nat.reduceAdd, Nat.reduceSub, Nat.reduceMul, Nat.reduceBEq, Nat.reduceBNe, Nat.reducePow, Int.reduceToNat, Int.reduceLE, Int.reduceLT, Int.reduceMul, Int.reduceEq, Int.reducePow, Int.reduceAdd, Int.reduceSub, Int.reduceNeg, reduceCtorEq, aX, Tryd.results71, hlr, hlr1, b8, hx]) | (with_reducible first | refine aj ?_ | refine bl ?_ | refine ar ?_ | refine au ?_ | refine aT fun K hK => ?_ | refine aK ?_ | refine aC ?_ | refine bA ?_ | refine aP ?_ | refine aF ?_) | (with_reducible refine hK _ ?_; clear hK K) | ((with_reducible first | refine bh ?_ ?_ | refine al ?_ ?_); (· decide)) | ((with_reducible refine cu (fun hc => ?_) (fun hc => ?_)) <;> (try simp only [decide_eq_true_eq, decide_eq_false_iff_not, Bool.not_true, Bool.not_false, Bool.not_eq_true', Bool.not_eq_false'] at hc) <;> (try (exfalso; omega))) | (with_reducible refine bT ?_ ?_; (· (try and_intros) <;> first | omega | assumption | (simp only [List.length_append, List.length_map, List.length_cons, List.length_nil] <;> omega))) | (with_reducible refine aa (h2) ?_) | (with_reducible refine bE (cm _) ?_))
        all_goals first | rfl | exact ⟨rfl, rfl⟩
      · have hk4' : ((k2 : Int) = 4) = False := eq_false (by omega)
        refine aM [] Tryd.func71 rfl Tryd.ntmps71 (Nat.le_of_ble_eq_true rfl) (Nat.le_of_ble_eq_true rfl) fun w0 G0 B0 Pr hB0 => ?_
        simp only [aS, aJ, List.cons_append, List.nil_append, pA]
        repeat' (first | (with_reducible refine hY _ ?_; clear hY Y) | ((with_reducible first | refine aD rfl (aN fun K' hK' => ab ?_) | refine hK' _ (ac fun Y hY => ab ?_) | refine bV rfl (ac fun Y hY => ab ?_) | refine ac fun Y hY => ab ?_ | refine aN fun K' hK' => ab ?_ | refine ae tk0 aX (ac fun Y hY => ab ?_) | refine ab ?_ | refine av ?_); (try clear hK' K'); (try dsimp only [aop]); try simp only [go_sem, ↓reduceIte, Nat.reduceEqDiff, Nat.reduceLT, Nat.reduceLeDiff, Nat.reduceAdd, Nat.reduceSub, Nat.reduceMul, Nat.reduceBEq, Nat.reduceBNe, Nat.reducePow, Int.reduceToNat, Int.reduceLE, Int.reduceLT, Int.reduceMul, Int.reduceEq, Int.reducePow, Int.reduceAdd, Int.reduceSub, Int.reduceNeg, reduceCtorEq, aX, Tryd.results71, hlr, hlr1, b8, hk4']) | (with_reducible first | refine aj ?_ | refine bW rfl ?_ | refine bl ?_ | refine fa ?_ ?_ | refine ar ?_ | refine au ?_ | refine aT fun K hK => ?_ | refine aK ?_ | refine aC ?_ | refine bA ?_ | refine aP ?_ | refine aF ?_) | (with_reducible refine hK _ ?_; clear hK K) | ((with_reducible first | refine bh ?_ ?_ | refine al ?_ ?_); (· decide)) | ((with_reducible refine cu (fun hc => ?_) (fun hc => ?_)) <;> (try simp only [decide_eq_true_eq, decide_eq_false_iff_not, Bool.not_true, Bool.not_false, Bool.not_eq_true', Bool.not_eq_false'] at hc) <;> (try (exfalso; omega))) | (with_reducible refine bT ?_ ?_; (· (try and_intros) <;> first | omega | assumption | (simp only [List.length_append, List.length_map, List.length_cons, List.length_nil] <;> omega))) | (with_reducible refine aa (h2) ?_))
        all_goals first | rfl | exact ⟨rfl, rfl⟩
def aV : Nat → List Nat
  | 0 => [0]
  | 1 => [0, 2]
  | 2 => [0, 2, 3]
  | 3 => [0, 2]
  | 4 => [0, 2, 3]
  | 5 => [0, 2]
  | 6 => [2]
  | 7 => [0, 2, 3]
  | 8 => [0, 2, 3]
  | 9 => [0, 2]
  | 10 => [0, 2]
  | 11 => [0, 2]
  | 12 => [0, 2, 4]
  | 13 => [0, 2, 4]
  | 14 => [2, 4]
  | 15 => [0, 2]
  | _ => []
set_option maxRecDepth 100000 in
set_option maxHeartbeats 4000000 in
theorem sX {B : Nat} {g : PS → Ex × PS} (hg : ExK 68 B g) (hmu : ∀ s, (g s).2.mu ≤ s.mu) : ExK 68 (B + 1) (gQ g) := by
  intro s hs
  have h1 := fz s [45]
  have hm1 := ng s [45]
  have e1 : (s.take [45]).1 = s.is [45] := by unfold PS.take; split <;> simp_all
  rw [e1] at h1
  unfold gQ
  simp only
  generalize s.is [45] = m at *
  generalize (s.take [45]).2 = s1 at *
  have h2 := mC s1 3
  have h3 := gA s1 11
  have h4 := fun sign => n7 hg sign s1 (by omega)
  have h5 := jD s1 [40]
  have h6 := jn s1 [40]
  have h10 := eZ s1
  by_cases hk : s1.kind 3 = true
  · rw [hk] at h2
    simp only [hk, Bool.not_true, Bool.and_false, Bool.false_eq_true, if_false, if_true]
    cases m
    · have h4 := h4 1 hk
      simp only [Bool.false_eq_true, if_false]
      generalize cY g 1 s1 = q at *
      obtain ⟨⟨k4, n4, x4, ks4⟩, s4⟩ := q
      simp only [exA] at h4 ⊢
      refine aM [] Tryd.func68 rfl Tryd.ntmps68 (Nat.le_of_ble_eq_true rfl) (Nat.le_of_ble_eq_true rfl) fun w0 G0 B0 Pr hB0 => ?_
      simp only [aS, aJ, List.cons_append, List.nil_append]
      repeat' (first | (with_reducible refine hY _ ?_; clear hY Y) | ((with_reducible first | refine aD rfl (aN fun K' hK' => ab ?_) | refine hK' _ (ac fun Y hY => ab ?_) | refine ac fun Y hY => ab ?_ | refine ae tk0 aV (ac fun Y hY => ab ?_) | refine ab ?_ | refine av ?_); (try clear hK' K'); (try dsimp only [aop]); try simp only [go_sem, ↓reduceIte, Nat.reduceEqDiff, Nat.reduceLT, Nat.reduceLeDiff, Nat.reduceAdd, Nat.reduceSub, Nat.reduceMul, Nat.reduceBEq, Nat.reduceBNe, Nat.reducePow, Int.reduceToNat, Int.reduceLE, Int.reduceLT, Int.reduceMul, Int.reduceEq, Int.reducePow, Int.reduceAdd, Int.reduceSub, Int.reduceNeg, reduceCtorEq, aV, Tryd.results68]) | (with_reducible first | refine aj ?_ | refine ar ?_ | refine au ?_ | refine aT fun K hK => ?_ | refine aK ?_ | refine aC ?_ | refine bA ?_ | refine b6 ?_ | refine ax ?_ | refine aP ?_ | refine aF ?_) | (with_reducible refine hK _ ?_; clear hK K) | ((with_reducible refine al ?_ ?_); (· decide)) | (with_reducible refine aa (h1) ?_) | (with_reducible refine aa (h2) ?_) | (with_reducible refine aa (h4) ?_))
      all_goals first | rfl | exact ⟨rfl, rfl⟩
    · have h4 := h4 (-1) hk
      simp only [if_true]
      generalize cY g (-1) s1 = q at *
      obtain ⟨⟨k4, n4, x4, ks4⟩, s4⟩ := q
      simp only [exA] at h4 ⊢
      refine aM [] Tryd.func68 rfl Tryd.ntmps68 (Nat.le_of_ble_eq_true rfl) (Nat.le_of_ble_eq_true rfl) fun w0 G0 B0 Pr hB0 => ?_
      simp only [aS, aJ, List.cons_append, List.nil_append]
      repeat' (first | (with_reducible refine hY _ ?_; clear hY Y) | ((with_reducible first | refine aD rfl (aN fun K' hK' => ab ?_) | refine hK' _ (ac fun Y hY => ab ?_) | refine ac fun Y hY => ab ?_ | refine ae tk0 aV (ac fun Y hY => ab ?_) | refine ab ?_ | refine av ?_); (try clear hK' K'); (try dsimp only [aop]); try simp only [go_sem, ↓reduceIte, Nat.reduceEqDiff, Nat.reduceLT, Nat.reduceLeDiff, Nat.reduceAdd, Nat.reduceSub, Nat.reduceMul, Nat.reduceBEq, Nat.reduceBNe, Nat.reducePow, Int.reduceToNat, Int.reduceLE, Int.reduceLT, Int.reduceMul, Int.reduceEq, Int.reducePow, Int.reduceAdd, Int.reduceSub, Int.reduceNeg, reduceCtorEq, aV, Tryd.results68]) | (with_reducible first | refine aj ?_ | refine ar ?_ | refine au ?_ | refine aT fun K hK => ?_ | refine aK ?_ | refine aC ?_ | refine bA ?_ | refine b6 ?_ | refine ax ?_ | refine aP ?_ | refine aF ?_) | (with_reducible refine hK _ ?_; clear hK K) | ((with_reducible refine al ?_ ?_); (· decide)) | (with_reducible refine aa (h1) ?_) | (with_reducible refine aa (h2) ?_) | (with_reducible refine aa (h4) ?_))
      all_goals first | rfl | exact ⟨rfl, rfl⟩
  have hk' := Bool.eq_false_iff.2 hk
  rw [hk'] at h2
  clear h4
  simp only [hk', Bool.not_false, Bool.and_true, Bool.false_eq_true, if_false]
  cases m
  case true =>
    simp only [if_true]
    refine aM [] Tryd.func68 rfl Tryd.ntmps68 (Nat.le_of_ble_eq_true rfl) (Nat.le_of_ble_eq_true rfl) fun w0 G0 B0 Pr hB0 => ?_
    simp only [aS, aJ, List.cons_append, List.nil_append]
    repeat' (first | (with_reducible refine hY _ ?_; clear hY Y) | ((with_reducible first | refine aD rfl (aN fun K' hK' => ab ?_) | refine hK' _ (ac fun Y hY => ab ?_) | refine ac fun Y hY => ab ?_ | refine ae tk0 aV (ac fun Y hY => ab ?_) | refine ab ?_ | refine av ?_); (try clear hK' K'); (try dsimp only [aop]); try simp only [go_sem, ↓reduceIte, Nat.reduceEqDiff, Nat.reduceLT, Nat.reduceLeDiff, Nat.reduceAdd, Nat.reduceSub, Nat.reduceMul, Nat.reduceBEq, Nat.reduceBNe, Nat.reducePow, Int.reduceToNat, Int.reduceLE, Int.reduceLT, Int.reduceMul, Int.reduceEq, Int.reducePow, Int.reduceAdd, Int.reduceSub, Int.reduceNeg, reduceCtorEq, aV, Tryd.results68]) | (with_reducible first | refine aj ?_ | refine ar ?_ | refine au ?_ | refine aT fun K hK => ?_ | refine aK ?_ | refine bA ?_ | refine aF ?_) | (with_reducible refine hK _ ?_; clear hK K) | ((with_reducible refine al ?_ ?_); (· decide)) | (with_reducible refine aa (h1) ?_) | (with_reducible refine aa (h2) ?_) | (with_reducible refine aa (h3) ?_))
    all_goals first | rfl | exact ⟨rfl, rfl⟩
  simp only [Bool.false_eq_true, if_false]
  by_cases hb : s1.is [40] = true
  · rw [hb] at h5
    simp only [hb, if_true]
    have hm2 := eS hb
    have h7 := oX hg hmu (s1.open' [40]) (by omega)
    generalize gk g (s1.open' [40]) = q at *
    generalize s1.open' [40] = s2 at *
    obtain ⟨⟨k4, n4, x4, ks4⟩, s4⟩ := q
    have h8 := ka s4 [[41]] .full (by simp)
    simp only [List.map_cons, List.map_nil, List.length_cons, List.length_nil] at h8
    have h9 := fd (s4.due [[41]])
    simp only [exA] at h7 ⊢
    generalize s4.due [[41]] = s5 at *
    refine aM [] Tryd.func68 rfl Tryd.ntmps68 (Nat.le_of_ble_eq_true rfl) (Nat.le_of_ble_eq_true rfl) fun w0 G0 B0 Pr hB0 => ?_
    simp only [aS, aJ, List.cons_append, List.nil_append]
    repeat' (first | (with_reducible refine hY _ ?_; clear hY Y) | ((with_reducible first | refine aD rfl (aN fun K' hK' => ab ?_) | refine hK' _ (ac fun Y hY => ab ?_) | refine ac fun Y hY => ab ?_ | refine ae tk0 aV (ac fun Y hY => ab ?_) | refine ab ?_ | refine av ?_); (try clear hK' K'); (try dsimp only [aop]); try simp only [go_sem, ↓reduceIte, Nat.reduceEqDiff, Nat.reduceLT, Nat.reduceLeDiff, Nat.reduceAdd, Nat.reduceSub, Nat.reduceMul, Nat.reduceBEq, Nat.reduceBNe, Nat.reducePow, Int.reduceToNat, Int.reduceLE, Int.reduceLT, Int.reduceMul, Int.reduceEq, Int.reducePow, Int.reduceAdd, Int.reduceSub, Int.reduceNeg, reduceCtorEq, aV, Tryd.results68]) | (with_reducible first | refine aj ?_ | refine ar ?_ | refine au ?_ | refine aT fun K hK => ?_ | refine aK ?_ | refine aC ?_ | refine bA ?_ | refine b6 ?_ | refine ax ?_ | refine aP ?_ | refine aF ?_) | (with_reducible refine hK _ ?_; clear hK K) | ((with_reducible refine al ?_ ?_); (· decide)) | (with_reducible refine aa (h1) ?_) | (with_reducible refine aa (h2) ?_) | (with_reducible refine aa (h5) ?_) | (with_reducible refine aa (h6) ?_) | (with_reducible refine aa (h7) ?_) | (with_reducible refine aa (h8) ?_) | (with_reducible refine aa (h9) ?_))
    all_goals first | rfl | exact ⟨rfl, rfl⟩
  · have hb' := Bool.eq_false_iff.2 hb
    rw [hb'] at h5
    simp only [hb', Bool.false_eq_true, if_false]
    generalize s1.word 1 = q at *
    refine aM [] Tryd.func68 rfl Tryd.ntmps68 (Nat.le_of_ble_eq_true rfl) (Nat.le_of_ble_eq_true rfl) fun w0 G0 B0 Pr hB0 => ?_
    simp only [aS, aJ, List.cons_append, List.nil_append]
    repeat' (first | (with_reducible refine hY _ ?_; clear hY Y) | ((with_reducible first | refine aD rfl (aN fun K' hK' => ab ?_) | refine hK' _ (ac fun Y hY => ab ?_) | refine ac fun Y hY => ab ?_ | refine ae tk0 aV (ac fun Y hY => ab ?_) | refine ab ?_ | refine av ?_); (try clear hK' K'); (try dsimp only [aop]); try simp only [go_sem, ↓reduceIte, Nat.reduceEqDiff, Nat.reduceLT, Nat.reduceLeDiff, Nat.reduceAdd, Nat.reduceSub, Nat.reduceMul, Nat.reduceBEq, Nat.reduceBNe, Nat.reducePow, Int.reduceToNat, Int.reduceLE, Int.reduceLT, Int.reduceMul, Int.reduceEq, Int.reducePow, Int.reduceAdd, Int.reduceSub, Int.reduceNeg, reduceCtorEq, aV, Tryd.results68]) | (with_reducible first | refine aj ?_ | refine ar ?_ | refine au ?_ | refine aT fun K hK => ?_ | refine aC ?_ | refine a8 ?_ | refine ax ?_ | refine aP ?_ | refine aF ?_) | (with_reducible refine hK _ ?_; clear hK K) | ((with_reducible refine al ?_ ?_); (· decide)) | (with_reducible refine aa (h1) ?_) | (with_reducible refine aa (h2) ?_) | (with_reducible refine aa (h5) ?_) | (with_reducible refine aa (h10) ?_))
    all_goals first | rfl | exact ⟨rfl, rfl⟩
theorem qe : ∀ f, ExK 68 f (j7 f)
  | 0 => fun s hs => absurd hs (Nat.not_lt_zero _)
  | f + 1 => sX (qe f) (gU f)
theorem dx (s : PS) : AFn Tryd.prog 61 [.loc 20000 0] [pA s] (.agg (exA (cb s).1)) [pA (cb s).2] :=
  oX (qe FU) (gU FU) s (dR s)
end Go.Proofs.YtpkcgdikbjaoaaaDoor
