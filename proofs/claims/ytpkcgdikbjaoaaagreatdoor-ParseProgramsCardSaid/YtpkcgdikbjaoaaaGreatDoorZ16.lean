/- The parser in K: lists of expressions, conditions. -/
import Derived.Test.YtpkcgdikbjaoaaaGreatDoorZ15
namespace Go.Proofs.YtpkcgdikbjaoaaaGreatDoor
set_option linter.unusedSimpArgs false
set_option linter.unusedVariables false
open Go.RowKit
def b6 : Nat → List Nat
  | 0 => [0, 1]
  | 1 => [0, 1]
  | 2 => []
  | 3 => [0]
  | 4 => [0, 5]
  | 5 => [0, 5]
  | 6 => [5]
  | _ => []
set_option maxRecDepth 100000 in
set_option maxHeartbeats 4000000 in
theorem rW (s : PS) (u : Wd) : AFn Tryz.prog 100 [.loc 20000 0, bs u] [pA s] (.sl (cW (s.exprs u).1) (s.exprs u).1.length .none) [pA (s.exprs u).2] := by
  have h1 := lX s u
  have h2 := fW s
  unfold PS.exprs
  by_cases h : s.is u = true
  · rw [if_pos h]
    rw [h] at h1
    refine dy (r := .sl [] 0 .full) ?_ 1 rfl
    refine aK [] Tryz.func100 rfl Tryz.ntmps100 (Nat.le_of_ble_eq_true rfl) (Nat.le_of_ble_eq_true rfl) fun w0 G0 B0 Pr hB0 => ?_
    simp only [aQ, aI, List.cons_append, List.nil_append]
    repeat' (first | (with_reducible refine hY _ ?_; clear hY Y) | ((with_reducible first | refine av rfl (aD fun K' hK' => ab ?_) | refine hK' _ (ac fun Y hY => ab ?_) | refine ac fun Y hY => ab ?_ | refine ae tk0 b6 (ac fun Y hY => ab ?_) | refine ab ?_ | refine ap ?_); (try clear hK' K'); (try dsimp only [aop]); try simp only [go_sem, ↓reduceIte, Nat.reduceEqDiff, Nat.reduceLT, Nat.reduceLeDiff, Nat.reduceAdd, Nat.reduceSub, Nat.reduceMul, Nat.reduceBEq, Nat.reduceBNe, Nat.reducePow, Int.reduceToNat, Int.reduceLE, Int.reduceLT, Int.reduceMul, Int.reduceEq, Int.reducePow, Int.reduceAdd, Int.reduceSub, Int.reduceNeg, reduceCtorEq, b6, Tryz.results100]) | (with_reducible first | refine ai ?_ | refine al ?_ | refine am ?_ | refine aL fun K hK => ?_ | refine ax ?_ | refine bg ?_ | refine az ?_) | (with_reducible refine hK _ ?_; clear hK K) | ((with_reducible refine ah ?_ ?_); (· decide)) | (with_reducible refine aa (h1) ?_))
  rw [if_neg h]
  rw [Bool.eq_false_iff.2 h] at h1
  obtain ⟨R, hR⟩ : ∃ R, R = fN [44] du FU [(du s).1] (du s).2 := ⟨_, rfl⟩
  rw [← hR]
  have hm0 := gH (du s).2
  generalize du s = q at *
  obtain ⟨⟨k0, n0, x0, ks0⟩, s0⟩ := q
  simp only [exA] at h2
  refine aK [] Tryz.func100 rfl Tryz.ntmps100 (Nat.le_of_ble_eq_true rfl) (Nat.le_of_ble_eq_true rfl) fun w0 G0 B0 Pr hB0 => ?_
  simp only [aQ, aI, List.cons_append, List.nil_append]
  repeat' (first | (with_reducible refine hY _ ?_; clear hY Y) | ((with_reducible first | refine av rfl (aD fun K' hK' => ab ?_) | refine hK' _ (ac fun Y hY => ab ?_) | refine ac fun Y hY => ab ?_ | refine ae tk0 b6 (ac fun Y hY => ab ?_) | refine ab ?_); (try clear hK' K'); (try dsimp only [aop]); try simp only [go_sem, ↓reduceIte, Nat.reduceEqDiff, Nat.reduceLT, Nat.reduceLeDiff, Nat.reduceAdd, Nat.reduceSub, Nat.reduceMul, Nat.reduceBEq, Nat.reduceBNe, Nat.reducePow, Int.reduceToNat, Int.reduceLE, Int.reduceLT, Int.reduceMul, Int.reduceEq, Int.reducePow, Int.reduceAdd, Int.reduceSub, Int.reduceNeg, reduceCtorEq, b6, Tryz.results100]) | (with_reducible first | refine ai ?_ | refine al ?_ | refine am ?_ | refine aL fun K hK => ?_ | refine ar ?_ | refine aq ?_ | refine aC ?_ | refine bx ?_) | (with_reducible refine hK _ ?_; clear hK K) | ((with_reducible refine ah ?_ ?_); (· decide)) | (with_reducible refine aa (h1) ?_) | (with_reducible refine aa (h2) ?_))
  refine fw (gk (b := 10018) (t := 5) 42 (by decide) (by decide) rfl rfl) ?_
  refine cw (α := Nat × List Ex × PS) (fun p => [(0, .loc 20000 0), (5, .sl (cW p.2.1) p.2.1.length (.tok 10018)), (10018, .bt p.2.1.length 42), (20000, pA p.2.2)])
    (fun p => fN [44] du p.1 p.2.1 p.2.2 = R ∧ p.2.2.mu < p.1 ∧ p.2.1.length + p.1 ≤ 80000) (fun p => p.1) (FU, [.mk k0 n0 x0 ks0], s0) [0, 5] ?_ ⟨hR.symm, hm0, (by simp [FU])⟩ ?_
  · simp only [go_sem, ↓reduceIte, Nat.reduceEqDiff, Nat.reduceLT, Nat.reduceLeDiff, Nat.reduceAdd, Nat.reduceSub, Nat.reduceMul, Nat.reduceBEq, Nat.reduceBNe, Nat.reducePow, Int.reduceToNat, Int.reduceLE, Int.reduceLT, Int.reduceMul, Int.reduceEq, Int.reducePow, Int.reduceAdd, Int.reduceSub, Int.reduceNeg, reduceCtorEq] <;> rfl
  rintro ⟨f, out, s1⟩ ⟨hgo, hmu, hlen⟩ ih
  simp only at ih hgo hmu hlen ⊢
  obtain ⟨f, rfl⟩ : ∃ f', f = f' + 1 := ⟨f - 1, by omega⟩
  rw [fN] at hgo
  have h3 := jj s1 [44]
  have h4 := fW s1.drop
  have hm1 := eW s1.drop
  unfold PS.take at h3
  by_cases hc : s1.is [44] = true
  · have hm2 := cN hc
    rw [if_pos hc] at hgo h3
    simp only at h3
    generalize du s1.drop = q2 at *
    obtain ⟨⟨k2, n2, x2, ks2⟩, s2⟩ := q2
    simp only [exA] at h4
    repeat' (first | (with_reducible refine hY _ ?_; clear hY Y) | ((with_reducible first | refine av rfl (aD fun K' hK' => ab ?_) | refine hK' _ (ac fun Y hY => ab ?_) | refine ac fun Y hY => ab ?_ | refine ae tk0 b6 (ac fun Y hY => ab ?_) | refine ab ?_); (try clear hK' K'); (try dsimp only [aop]); try simp only [go_sem, ↓reduceIte, Nat.reduceEqDiff, Nat.reduceLT, Nat.reduceLeDiff, Nat.reduceAdd, Nat.reduceSub, Nat.reduceMul, Nat.reduceBEq, Nat.reduceBNe, Nat.reducePow, Int.reduceToNat, Int.reduceLE, Int.reduceLT, Int.reduceMul, Int.reduceEq, Int.reducePow, Int.reduceAdd, Int.reduceSub, Int.reduceNeg, reduceCtorEq, b6, Tryz.results100, kJ]) | (with_reducible first | refine ai ?_ | refine al ?_ | refine am ?_ | refine aL fun K hK => ?_ | refine ax ?_ | refine aO ?_ | refine aq ?_ | refine aC ?_) | (with_reducible refine hK _ ?_; clear hK K) | ((with_reducible refine ah ?_ ?_); (· decide)) | (with_reducible refine bQ ?_ ?_; (· (try and_intros) <;> first | omega | assumption | (simp only [List.length_append, List.length_map, List.length_cons, List.length_nil] <;> omega))) | (with_reducible refine aa (h3) ?_) | (with_reducible refine aa (h4) ?_))
    refine bA [0, 5] (by simp only [go_sem, ↓reduceIte, Nat.reduceEqDiff, Nat.reduceLT, Nat.reduceLeDiff, Nat.reduceAdd, Nat.reduceSub, Nat.reduceMul, Nat.reduceBEq, Nat.reduceBNe, Nat.reducePow, Int.reduceToNat, Int.reduceLE, Int.reduceLT, Int.reduceMul, Int.reduceEq, Int.reducePow, Int.reduceAdd, Int.reduceSub, Int.reduceNeg, reduceCtorEq]; exact rfl) ?_
    refine dw (ih (f, out ++ [.mk k2 n2 x2 ks2], s2) ⟨hgo, Nat.lt_of_le_of_lt hm1 (by omega), (by simp only [List.length_append, List.length_cons, List.length_nil]; omega)⟩ (by simp only; omega)) ?_
    simp [lZ, cW, exA]
  · rw [if_neg hc] at hgo h3
    simp only at h3
    subst hgo
    repeat' (first | (with_reducible refine hY _ ?_; clear hY Y) | ((with_reducible first | refine av rfl (aD fun K' hK' => ab ?_) | refine hK' _ (ac fun Y hY => ab ?_) | refine ac fun Y hY => ab ?_ | refine ae tk0 b6 (ac fun Y hY => ab ?_) | refine ab ?_ | refine ap ?_); (try clear hK' K'); (try dsimp only [aop]); try simp only [go_sem, ↓reduceIte, Nat.reduceEqDiff, Nat.reduceLT, Nat.reduceLeDiff, Nat.reduceAdd, Nat.reduceSub, Nat.reduceMul, Nat.reduceBEq, Nat.reduceBNe, Nat.reducePow, Int.reduceToNat, Int.reduceLE, Int.reduceLT, Int.reduceMul, Int.reduceEq, Int.reducePow, Int.reduceAdd, Int.reduceSub, Int.reduceNeg, reduceCtorEq, b6, Tryz.results100]) | (with_reducible first | refine ai ?_ | refine al ?_ | refine am ?_ | refine aL fun K hK => ?_ | refine ar ?_ | refine bN ?_ | refine bo ?_ | refine az ?_ | refine bq ?_) | (with_reducible refine hK _ ?_; clear hK K) | ((with_reducible refine ah ?_ ?_); (· decide)) | (with_reducible refine aa (h3) ?_))
def CoK (f : FuncId) (B : Nat) (g : PS → Co × PS) : Prop := ∀ s : PS, s.mu < B → AFn Tryz.prog f [.loc 20000 0] [pA s] (.agg (coA (g s).1)) [pA (g s).2]
def cG : Nat → List Nat
  | 0 => [0]
  | 1 => [0, 2]
  | 2 => [0, 2, 3]
  | 3 => [0, 2, 3]
  | 4 => [0, 2, 3, 4]
  | 5 => [2, 3]
  | _ => []
set_option maxRecDepth 100000 in
set_option maxHeartbeats 4000000 in
theorem zH {B : Nat} {g : PS → Co × PS} (hg : CoK 104 B g) (hmu : ∀ s, (g s).2.mu ≤ s.mu) : CoK 99 B (lF g) := by
  intro s hs
  obtain ⟨R, hR⟩ : ∃ R, R = lF g s := ⟨_, rfl⟩
  rw [← hR]
  unfold lF at hR
  have h1 := hg s hs
  have hm0 := gH (g s).2
  have hm1 := hmu s
  generalize g s = q at *
  obtain ⟨⟨k0, e0, ks0⟩, s0⟩ := q
  simp only [coA] at h1
  refine aK [] Tryz.func99 rfl Tryz.ntmps99 (Nat.le_of_ble_eq_true rfl) (Nat.le_of_ble_eq_true rfl) fun w0 G0 B0 Pr hB0 => ?_
  simp only [aQ, aI, List.cons_append, List.nil_append]
  repeat' (first | (with_reducible refine hY _ ?_; clear hY Y) | ((with_reducible first | refine av rfl (aD fun K' hK' => ab ?_) | refine hK' _ (ac fun Y hY => ab ?_) | refine ae tk0 cG (ac fun Y hY => ab ?_) | refine ab ?_); (try clear hK' K'); (try dsimp only [aop]); try simp only [go_sem, ↓reduceIte, Nat.reduceEqDiff, Nat.reduceLT, Nat.reduceLeDiff, Nat.reduceAdd, Nat.reduceSub, Nat.reduceMul, Nat.reduceBEq, Nat.reduceBNe, Nat.reducePow, Int.reduceToNat, Int.reduceLE, Int.reduceLT, Int.reduceMul, Int.reduceEq, Int.reducePow, Int.reduceAdd, Int.reduceSub, Int.reduceNeg, reduceCtorEq, cG, Tryz.results99]) | (with_reducible first | refine ai ?_ | refine al ?_ | refine am ?_ | refine aL fun K hK => ?_ | refine aq ?_ | refine bx ?_) | (with_reducible refine hK _ ?_; clear hK K) | (with_reducible refine aa (h1) ?_))
  refine cw (α := Nat × Co × PS) (fun p => [(0, .loc 20000 0), (2, .loc 10002 0), (3, .loc 10003 0), (10002, .bc (coA coZ) 40), (10003, .bc (coA p.2.1) 40), (20000, pA p.2.2)])
    (fun p => fk [38, 38] (fun a b => .mk 7 [] [a, b]) g p.1 p.2.1 p.2.2 = R ∧ p.2.2.mu < p.1 ∧ p.2.2.mu < B) (fun p => p.1) (FU, .mk k0 e0 ks0, s0) [0, 2, 3] ?_ ⟨hR.symm, hm0, Nat.lt_of_le_of_lt hm1 hs⟩ ?_
  · simp only [go_sem, ↓reduceIte, Nat.reduceEqDiff, Nat.reduceLT, Nat.reduceLeDiff, Nat.reduceAdd, Nat.reduceSub, Nat.reduceMul, Nat.reduceBEq, Nat.reduceBNe, Nat.reducePow, Int.reduceToNat, Int.reduceLE, Int.reduceLT, Int.reduceMul, Int.reduceEq, Int.reducePow, Int.reduceAdd, Int.reduceSub, Int.reduceNeg, reduceCtorEq] <;> rfl
  rintro ⟨f, ⟨k1, e1, ks1⟩, s1⟩ ⟨hgo, hmf, hmB⟩ ih
  simp only [coA, coZ, eV, cW] at ih hgo hmf hmB ⊢
  obtain ⟨f, rfl⟩ : ∃ f', f = f' + 1 := ⟨f - 1, by omega⟩
  rw [fk] at hgo
  have h3 := jj s1 [38, 38]
  unfold PS.take at h3
  by_cases hc : s1.is [38, 38] = true
  · have hm2 := cN hc
    have hm3 := hmu s1.drop
    have h4 := hg s1.drop (by omega)
    rw [if_pos hc] at hgo h3
    simp only at h3
    generalize g s1.drop = q2 at *
    obtain ⟨⟨k2, e2, ks2⟩, s2⟩ := q2
    simp only [coA] at h4 hgo hm3
    repeat' (first | (with_reducible refine hY _ ?_; clear hY Y) | ((with_reducible first | refine av rfl (aD fun K' hK' => ab ?_) | refine hK' _ (ac fun Y hY => ab ?_) | refine ac fun Y hY => ab ?_ | refine ae tk0 cG (ac fun Y hY => ab ?_) | refine ab ?_); (try clear hK' K'); (try dsimp only [aop]); try simp only [go_sem, ↓reduceIte, Nat.reduceEqDiff, Nat.reduceLT, Nat.reduceLeDiff, Nat.reduceAdd, Nat.reduceSub, Nat.reduceMul, Nat.reduceBEq, Nat.reduceBNe, Nat.reducePow, Int.reduceToNat, Int.reduceLE, Int.reduceLT, Int.reduceMul, Int.reduceEq, Int.reducePow, Int.reduceAdd, Int.reduceSub, Int.reduceNeg, reduceCtorEq, cG, Tryz.results99]) | (with_reducible first | refine ai ?_ | refine al ?_ | refine am ?_ | refine aL fun K hK => ?_ | refine ax ?_ | refine aO ?_ | refine aq ?_ | refine aC ?_) | (with_reducible refine hK _ ?_; clear hK K) | ((with_reducible refine ah ?_ ?_); (· decide)) | (with_reducible refine aa (h3) ?_) | (with_reducible refine aa (h4) ?_))
    refine bA [0, 2, 3] (by simp only [go_sem, ↓reduceIte, Nat.reduceEqDiff, Nat.reduceLT, Nat.reduceLeDiff, Nat.reduceAdd, Nat.reduceSub, Nat.reduceMul, Nat.reduceBEq, Nat.reduceBNe, Nat.reducePow, Int.reduceToNat, Int.reduceLE, Int.reduceLT, Int.reduceMul, Int.reduceEq, Int.reducePow, Int.reduceAdd, Int.reduceSub, Int.reduceNeg, reduceCtorEq]; exact rfl) ?_
    refine dw (ih (f, _, s2) ⟨hgo, by simp only; omega, by simp only; omega⟩ (by simp only; omega)) ?_
    rfl
  · rw [if_neg hc] at hgo h3
    simp only at h3
    rw [← hgo]
    repeat' (first | (with_reducible refine hY _ ?_; clear hY Y) | ((with_reducible first | refine av rfl (aD fun K' hK' => ab ?_) | refine hK' _ (ac fun Y hY => ab ?_) | refine ac fun Y hY => ab ?_ | refine ae tk0 cG (ac fun Y hY => ab ?_) | refine ab ?_ | refine ap ?_); (try clear hK' K'); (try dsimp only [aop]); try simp only [go_sem, ↓reduceIte, Nat.reduceEqDiff, Nat.reduceLT, Nat.reduceLeDiff, Nat.reduceAdd, Nat.reduceSub, Nat.reduceMul, Nat.reduceBEq, Nat.reduceBNe, Nat.reducePow, Int.reduceToNat, Int.reduceLE, Int.reduceLT, Int.reduceMul, Int.reduceEq, Int.reducePow, Int.reduceAdd, Int.reduceSub, Int.reduceNeg, reduceCtorEq, cG, Tryz.results99]) | (with_reducible first | refine ai ?_ | refine al ?_ | refine am ?_ | refine aL fun K hK => ?_ | refine ar ?_ | refine bN ?_ | refine bo ?_ | refine az ?_ | refine bq ?_) | (with_reducible refine hK _ ?_; clear hK K) | ((with_reducible refine ah ?_ ?_); (· decide)) | (with_reducible refine aa (h3) ?_))
    all_goals first | rfl | exact ⟨rfl, rfl⟩
def cE : Nat → List Nat
  | 0 => [0]
  | 1 => [0, 2]
  | 2 => [0, 2, 3]
  | 3 => [0, 2, 3]
  | 4 => [0, 2, 3, 4]
  | 5 => [2, 3]
  | _ => []
set_option maxRecDepth 100000 in
set_option maxHeartbeats 4000000 in
theorem vd {B : Nat} {o : PS → Co × PS} (ho : CoK 104 B o) (hmo : ∀ s, (o s).2.mu ≤ s.mu) : CoK 85 B (iZ o) := by
  intro s hs
  have hg := zH ho hmo
  have hmu := oJ hmo
  obtain ⟨R, hR⟩ : ∃ R, R = iZ o s := ⟨_, rfl⟩
  rw [← hR]
  unfold iZ at hR
  generalize lF o = g at *
  have h1 := hg s hs
  have hm0 := gH (g s).2
  have hm1 := hmu s
  generalize g s = q at *
  obtain ⟨⟨k0, e0, ks0⟩, s0⟩ := q
  simp only [coA] at h1
  refine aK [] Tryz.func85 rfl Tryz.ntmps85 (Nat.le_of_ble_eq_true rfl) (Nat.le_of_ble_eq_true rfl) fun w0 G0 B0 Pr hB0 => ?_
  simp only [aQ, aI, List.cons_append, List.nil_append]
  repeat' (first | (with_reducible refine hY _ ?_; clear hY Y) | ((with_reducible first | refine av rfl (aD fun K' hK' => ab ?_) | refine hK' _ (ac fun Y hY => ab ?_) | refine ae tk0 cE (ac fun Y hY => ab ?_) | refine ab ?_); (try clear hK' K'); (try dsimp only [aop]); try simp only [go_sem, ↓reduceIte, Nat.reduceEqDiff, Nat.reduceLT, Nat.reduceLeDiff, Nat.reduceAdd, Nat.reduceSub, Nat.reduceMul, Nat.reduceBEq, Nat.reduceBNe, Nat.reducePow, Int.reduceToNat, Int.reduceLE, Int.reduceLT, Int.reduceMul, Int.reduceEq, Int.reducePow, Int.reduceAdd, Int.reduceSub, Int.reduceNeg, reduceCtorEq, cE, Tryz.results85]) | (with_reducible first | refine ai ?_ | refine al ?_ | refine am ?_ | refine aL fun K hK => ?_ | refine aq ?_ | refine bx ?_) | (with_reducible refine hK _ ?_; clear hK K) | (with_reducible refine aa (h1) ?_))
  refine cw (α := Nat × Co × PS) (fun p => [(0, .loc 20000 0), (2, .loc 10002 0), (3, .loc 10003 0), (10002, .bc (coA coZ) 40), (10003, .bc (coA p.2.1) 40), (20000, pA p.2.2)])
    (fun p => fk [124, 124] (fun a b => .mk 8 [] [a, b]) g p.1 p.2.1 p.2.2 = R ∧ p.2.2.mu < p.1 ∧ p.2.2.mu < B) (fun p => p.1) (FU, .mk k0 e0 ks0, s0) [0, 2, 3] ?_ ⟨hR.symm, hm0, Nat.lt_of_le_of_lt hm1 hs⟩ ?_
  · simp only [go_sem, ↓reduceIte, Nat.reduceEqDiff, Nat.reduceLT, Nat.reduceLeDiff, Nat.reduceAdd, Nat.reduceSub, Nat.reduceMul, Nat.reduceBEq, Nat.reduceBNe, Nat.reducePow, Int.reduceToNat, Int.reduceLE, Int.reduceLT, Int.reduceMul, Int.reduceEq, Int.reducePow, Int.reduceAdd, Int.reduceSub, Int.reduceNeg, reduceCtorEq] <;> rfl
  rintro ⟨f, ⟨k1, e1, ks1⟩, s1⟩ ⟨hgo, hmf, hmB⟩ ih
  simp only [coA, coZ, eV, cW] at ih hgo hmf hmB ⊢
  obtain ⟨f, rfl⟩ : ∃ f', f = f' + 1 := ⟨f - 1, by omega⟩
  rw [fk] at hgo
  have h3 := jj s1 [124, 124]
  unfold PS.take at h3
  by_cases hc : s1.is [124, 124] = true
  · have hm2 := cN hc
    have hm3 := hmu s1.drop
    have h4 := hg s1.drop (by omega)
    rw [if_pos hc] at hgo h3
    simp only at h3
    generalize g s1.drop = q2 at *
    obtain ⟨⟨k2, e2, ks2⟩, s2⟩ := q2
    simp only [coA] at h4 hgo hm3
    repeat' (first | (with_reducible refine hY _ ?_; clear hY Y) | ((with_reducible first | refine av rfl (aD fun K' hK' => ab ?_) | refine hK' _ (ac fun Y hY => ab ?_) | refine ac fun Y hY => ab ?_ | refine ae tk0 cE (ac fun Y hY => ab ?_) | refine ab ?_); (try clear hK' K'); (try dsimp only [aop]); try simp only [go_sem, ↓reduceIte, Nat.reduceEqDiff, Nat.reduceLT, Nat.reduceLeDiff, Nat.reduceAdd, Nat.reduceSub, Nat.reduceMul, Nat.reduceBEq, Nat.reduceBNe, Nat.reducePow, Int.reduceToNat, Int.reduceLE, Int.reduceLT, Int.reduceMul, Int.reduceEq, Int.reducePow, Int.reduceAdd, Int.reduceSub, Int.reduceNeg, reduceCtorEq, cE, Tryz.results85]) | (with_reducible first | refine ai ?_ | refine al ?_ | refine am ?_ | refine aL fun K hK => ?_ | refine ax ?_ | refine aO ?_ | refine aq ?_ | refine aC ?_) | (with_reducible refine hK _ ?_; clear hK K) | ((with_reducible refine ah ?_ ?_); (· decide)) | (with_reducible refine aa (h3) ?_) | (with_reducible refine aa (h4) ?_))
    refine bA [0, 2, 3] (by simp only [go_sem, ↓reduceIte, Nat.reduceEqDiff, Nat.reduceLT, Nat.reduceLeDiff, Nat.reduceAdd, Nat.reduceSub, Nat.reduceMul, Nat.reduceBEq, Nat.reduceBNe, Nat.reducePow, Int.reduceToNat, Int.reduceLE, Int.reduceLT, Int.reduceMul, Int.reduceEq, Int.reducePow, Int.reduceAdd, Int.reduceSub, Int.reduceNeg, reduceCtorEq]; exact rfl) ?_
    refine dw (ih (f, _, s2) ⟨hgo, by simp only; omega, by simp only; omega⟩ (by simp only; omega)) ?_
    rfl
  · rw [if_neg hc] at hgo h3
    simp only at h3
    rw [← hgo]
    repeat' (first | (with_reducible refine hY _ ?_; clear hY Y) | ((with_reducible first | refine av rfl (aD fun K' hK' => ab ?_) | refine hK' _ (ac fun Y hY => ab ?_) | refine ac fun Y hY => ab ?_ | refine ae tk0 cE (ac fun Y hY => ab ?_) | refine ab ?_ | refine ap ?_); (try clear hK' K'); (try dsimp only [aop]); try simp only [go_sem, ↓reduceIte, Nat.reduceEqDiff, Nat.reduceLT, Nat.reduceLeDiff, Nat.reduceAdd, Nat.reduceSub, Nat.reduceMul, Nat.reduceBEq, Nat.reduceBNe, Nat.reducePow, Int.reduceToNat, Int.reduceLE, Int.reduceLT, Int.reduceMul, Int.reduceEq, Int.reducePow, Int.reduceAdd, Int.reduceSub, Int.reduceNeg, reduceCtorEq, cE, Tryz.results85]) | (with_reducible first | refine ai ?_ | refine al ?_ | refine am ?_ | refine aL fun K hK => ?_ | refine ar ?_ | refine bN ?_ | refine bo ?_ | refine az ?_ | refine bq ?_) | (with_reducible refine hK _ ?_; clear hK K) | ((with_reducible refine ah ?_ ?_); (· decide)) | (with_reducible refine aa (h3) ?_))
    all_goals first | rfl | exact ⟨rfl, rfl⟩
def dU : Nat → List Nat
  | 0 => [0]
  | 1 => [0, 2]
  | 2 => [0, 2]
  | 3 => [0, 2, 3]
  | 4 => [0, 2, 3]
  | 5 => [2, 3]
  | _ => []
set_option maxRecDepth 100000 in
set_option maxHeartbeats 4000000 in
theorem nq {B : Nat} {o : PS → Co × PS} (ho : CoK 104 B o) (hmo : ∀ s, (o s).2.mu ≤ s.mu) (s : PS) (hs : s.mu < B + 1) (hb : s.is [91] = true ∨ s.mu < B) :
    AFn Tryz.prog 81 [.loc 20000 0] [pA s] (.agg (coA (eE o s).1)) [pA (eE o s).2] := by
  have hm : (s.open' [91]).mu < B := by
    rcases hb with hb | hb
    · have := ix hb; omega
    · have := gh s [91]; omega
  have h1 := nc s [91]
  have h2 := vd ho hmo (s.open' [91]) hm
  unfold eE
  simp only
  generalize s.open' [91] = s1 at *
  generalize iZ o s1 = q at *
  obtain ⟨⟨k0, e0, ks0⟩, s0⟩ := q
  have h3 := nS s0 [[93]] .full (by simp)
  simp only [List.map_cons, List.map_nil, List.length_cons, List.length_nil] at h3
  have h4 := iK (s0.due [[93]])
  simp only [coA] at h2 ⊢
  generalize s0.due [[93]] = s5 at *
  refine aK [] Tryz.func81 rfl Tryz.ntmps81 (Nat.le_of_ble_eq_true rfl) (Nat.le_of_ble_eq_true rfl) fun w0 G0 B0 Pr hB0 => ?_
  simp only [aQ, aI, List.cons_append, List.nil_append]
  repeat' (first | (with_reducible refine hY _ ?_; clear hY Y) | ((with_reducible first | refine av rfl (aD fun K' hK' => ab ?_) | refine hK' _ (ac fun Y hY => ab ?_) | refine ae tk0 dU (ac fun Y hY => ab ?_) | refine ab ?_ | refine ap ?_); (try clear hK' K'); (try dsimp only [aop]); try simp only [go_sem, ↓reduceIte, Nat.reduceEqDiff, Nat.reduceLT, Nat.reduceLeDiff, Nat.reduceAdd, Nat.reduceSub, Nat.reduceMul, Nat.reduceBEq, Nat.reduceBNe, Nat.reducePow, Int.reduceToNat, Int.reduceLE, Int.reduceLT, Int.reduceMul, Int.reduceEq, Int.reducePow, Int.reduceAdd, Int.reduceSub, Int.reduceNeg, reduceCtorEq, dU, Tryz.results81]) | (with_reducible first | refine ai ?_ | refine al ?_ | refine am ?_ | refine aL fun K hK => ?_ | refine az ?_) | (with_reducible refine hK _ ?_; clear hK K) | (with_reducible refine aa (h1) ?_) | (with_reducible refine aa (h2) ?_) | (with_reducible refine aa (h3) ?_) | (with_reducible refine aa (h4) ?_))
  all_goals first | rfl | exact ⟨rfl, rfl⟩
end Go.Proofs.YtpkcgdikbjaoaaaGreatDoor
