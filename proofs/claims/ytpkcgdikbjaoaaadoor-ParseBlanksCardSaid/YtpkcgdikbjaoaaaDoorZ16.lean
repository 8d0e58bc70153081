/- The parser in K: lists of expressions, conditions. -/
import Derived.Test.YtpkcgdikbjaoaaaDoorZ15
namespace Go.Proofs.YtpkcgdikbjaoaaaDoor
set_option linter.unusedSimpArgs false
set_option linter.unusedVariables false
open Go.RowKit
def a7 : Nat → List Nat
  | 0 => [0, 1]
  | 1 => [0, 1]
  | 2 => []
  | 3 => [0]
  | 4 => [0, 5]
  | 5 => [0, 5]
  | 6 => [5]
  | _ => []
set_option maxRecDepth 100000 in
set_option maxHeartbeats 4000000 in
theorem ny (s : PS) (u : Wd) : AFn Tryd.prog 70 [.loc 20000 0, bs u] [pA s] (.sl (b4 (s.exprs u).1) (s.exprs u).1.length .none) [pA (s.exprs u).2] := by
  have h1 := jD s u
  have h2 := dx s
  unfold PS.exprs
  by_cases h : s.is u = true
  · rw [if_pos h]
    rw [h] at h1
    refine dr (r := .sl [] 0 .full) ?_ 1 rfl
    refine aM [] Tryd.func70 rfl Tryd.ntmps70 (Nat.le_of_ble_eq_true rfl) (Nat.le_of_ble_eq_true rfl) fun w0 G0 B0 Pr hB0 => ?_
    simp only [aS, aJ, List.cons_append, List.nil_append]
    repeat' (first | (with_reducible refine hY _ ?_; clear hY Y) | ((with_reducible first | refine aD rfl (aN fun K' hK' => ab ?_) | refine hK' _ (ac fun Y hY => ab ?_) | refine ac fun Y hY => ab ?_ | refine ae tk0 a7 (ac fun Y hY => ab ?_) | refine ab ?_ | refine av ?_); (try clear hK' K'); (try dsimp only [aop]); try simp only [go_sem, ↓reduceIte, Nat.reduceEqDiff, Nat.reduceLT, Nat.reduceLeDiff, Nat.reduceAdd, Nat.reduceSub, Nat.reduceMul, Nat.reduceBEq, Nat.reduceBNe, Nat.reducePow, Int.reduceToNat, Int.reduceLE, Int.reduceLT, Int.reduceMul, Int.reduceEq, Int.reducePow, Int.reduceAdd, Int.reduceSub, Int.reduceNeg, reduceCtorEq, a7, Tryd.results70]) | (with_reducible first | refine aj ?_ | refine ar ?_ | refine au ?_ | refine aT fun K hK => ?_ | refine aK ?_ | refine bA ?_ | refine aF ?_) | (with_reducible refine hK _ ?_; clear hK K) | ((with_reducible refine al ?_ ?_); (· decide)) | (with_reducible refine aa (h1) ?_))
  rw [if_neg h]
  rw [Bool.eq_false_iff.2 h] at h1
  obtain ⟨R, hR⟩ : ∃ R, R = eq [44] cb FU [(cb s).1] (cb s).2 := ⟨_, rfl⟩
  rw [← hR]
  have hm0 := dR (cb s).2
  generalize cb s = q at *
  obtain ⟨⟨k0, n0, x0, ks0⟩, s0⟩ := q
  simp only [exA] at h2
  refine aM [] Tryd.func70 rfl Tryd.ntmps70 (Nat.le_of_ble_eq_true rfl) (Nat.le_of_ble_eq_true rfl) fun w0 G0 B0 Pr hB0 => ?_
  simp only [aS, aJ, List.cons_append, List.nil_append]
  repeat' (first | (with_reducible refine hY _ ?_; clear hY Y) | ((with_reducible first | refine aD rfl (aN fun K' hK' => ab ?_) | refine hK' _ (ac fun Y hY => ab ?_) | refine ac fun Y hY => ab ?_ | refine ae tk0 a7 (ac fun Y hY => ab ?_) | refine ab ?_); (try clear hK' K'); (try dsimp only [aop]); try simp only [go_sem, ↓reduceIte, Nat.reduceEqDiff, Nat.reduceLT, Nat.reduceLeDiff, Nat.reduceAdd, Nat.reduceSub, Nat.reduceMul, Nat.reduceBEq, Nat.reduceBNe, Nat.reducePow, Int.reduceToNat, Int.reduceLE, Int.reduceLT, Int.reduceMul, Int.reduceEq, Int.reducePow, Int.reduceAdd, Int.reduceSub, Int.reduceNeg, reduceCtorEq, a7, Tryd.results70]) | (with_reducible first | refine aj ?_ | refine ar ?_ | refine au ?_ | refine aT fun K hK => ?_ | refine aC ?_ | refine ax ?_ | refine aP ?_ | refine bZ ?_) | (with_reducible refine hK _ ?_; clear hK K) | ((with_reducible refine al ?_ ?_); (· decide)) | (with_reducible refine aa (h1) ?_) | (with_reducible refine aa (h2) ?_))
  refine fB (iO (b := 10018) (t := 5) 43 (by decide) (by decide) rfl rfl) ?_
  refine b7 (α := Nat × List Ex × PS) (fun p => [(0, .loc 20000 0), (5, .sl (b4 p.2.1) p.2.1.length (.tok 10018)), (10018, .bt p.2.1.length 43), (20000, pA p.2.2)])
    (fun p => eq [44] cb p.1 p.2.1 p.2.2 = R ∧ p.2.2.mu < p.1 ∧ p.2.1.length + p.1 ≤ 80000) (fun p => p.1) (FU, [.mk k0 n0 x0 ks0], s0) [0, 5] ?_ ⟨hR.symm, hm0, (by simp [FU])⟩ ?_
  · simp only [go_sem, ↓reduceIte, Nat.reduceEqDiff, Nat.reduceLT, Nat.reduceLeDiff, Nat.reduceAdd, Nat.reduceSub, Nat.reduceMul, Nat.reduceBEq, Nat.reduceBNe, Nat.reducePow, Int.reduceToNat, Int.reduceLE, Int.reduceLT, Int.reduceMul, Int.reduceEq, Int.reducePow, Int.reduceAdd, Int.reduceSub, Int.reduceNeg, reduceCtorEq] <;> rfl
  rintro ⟨f, out, s1⟩ ⟨hgo, hmu, hlen⟩ ih
  simp only at ih hgo hmu hlen ⊢
  obtain ⟨f, rfl⟩ : ∃ f', f = f' + 1 := ⟨f - 1, by omega⟩
  rw [eq] at hgo
  have h3 := fz s1 [44]
  have h4 := dx s1.drop
  have hm1 := cU s1.drop
  unfold PS.take at h3
  by_cases hc : s1.is [44] = true
  · have hm2 := bB hc
    rw [if_pos hc] at hgo h3
    simp only at h3
    generalize cb s1.drop = q2 at *
    obtain ⟨⟨k2, n2, x2, ks2⟩, s2⟩ := q2
    simp only [exA] at h4
    repeat' (first | (with_reducible refine hY _ ?_; clear hY Y) | ((with_reducible first | refine aD rfl (aN fun K' hK' => ab ?_) | refine hK' _ (ac fun Y hY => ab ?_) | refine ac fun Y hY => ab ?_ | refine ae tk0 a7 (ac fun Y hY => ab ?_) | refine ab ?_); (try clear hK' K'); (try dsimp only [aop]); try simp only [go_sem, ↓reduceIte, Nat.reduceEqDiff, Nat.reduceLT, Nat.reduceLeDiff, Nat.reduceAdd, Nat.reduceSub, Nat.reduceMul, Nat.reduceBEq, Nat.reduceBNe, Nat.reducePow, Int.reduceToNat, Int.reduceLE, Int.reduceLT, Int.reduceMul, Int.reduceEq, Int.reducePow, Int.reduceAdd, Int.reduceSub, Int.reduceNeg, reduceCtorEq, a7, Tryd.results70, jj]) | (with_reducible first | refine aj ?_ | refine ar ?_ | refine au ?_ | refine aT fun K hK => ?_ | refine aK ?_ | refine a8 ?_ | refine ax ?_ | refine aP ?_) | (with_reducible refine hK _ ?_; clear hK K) | ((with_reducible refine al ?_ ?_); (· decide)) | (with_reducible refine bT ?_ ?_; (· (try and_intros) <;> first | omega | assumption | (simp only [List.length_append, List.length_map, List.length_cons, List.length_nil] <;> omega))) | (with_reducible refine aa (h3) ?_) | (with_reducible refine aa (h4) ?_))
    refine bI [0, 5] (by simp only [go_sem, ↓reduceIte, Nat.reduceEqDiff, Nat.reduceLT, Nat.reduceLeDiff, Nat.reduceAdd, Nat.reduceSub, Nat.reduceMul, Nat.reduceBEq, Nat.reduceBNe, Nat.reducePow, Int.reduceToNat, Int.reduceLE, Int.reduceLT, Int.reduceMul, Int.reduceEq, Int.reducePow, Int.reduceAdd, Int.reduceSub, Int.reduceNeg, reduceCtorEq]; exact rfl) ?_
    refine et (ih (f, out ++ [.mk k2 n2 x2 ks2], s2) ⟨hgo, Nat.lt_of_le_of_lt hm1 (by omega), (by simp only [List.length_append, List.length_cons, List.length_nil]; omega)⟩ (by simp only; omega)) ?_
    simp [lK, b4, exA]
  · rw [if_neg hc] at hgo h3
    simp only at h3
    subst hgo
    repeat' (first | (with_reducible refine hY _ ?_; clear hY Y) | ((with_reducible first | refine aD rfl (aN fun K' hK' => ab ?_) | refine hK' _ (ac fun Y hY => ab ?_) | refine ac fun Y hY => ab ?_ | refine ae tk0 a7 (ac fun Y hY => ab ?_) | refine ab ?_ | refine av ?_); (try clear hK' K'); (try dsimp only [aop]); try simp only [go_sem, ↓reduceIte, Nat.reduceEqDiff, Nat.reduceLT, Nat.reduceLeDiff, Nat.reduceAdd, Nat.reduceSub, Nat.reduceMul, Nat.reduceBEq, Nat.reduceBNe, Nat.reducePow, Int.reduceToNat, Int.reduceLE, Int.reduceLT, Int.reduceMul, Int.reduceEq, Int.reducePow, Int.reduceAdd, Int.reduceSub, Int.reduceNeg, reduceCtorEq, a7, Tryd.results70]) | (with_reducible first | refine aj ?_ | refine ar ?_ | refine au ?_ | refine aT fun K hK => ?_ | refine aC ?_ | refine b3 ?_ | refine bG ?_ | refine aF ?_ | refine bH ?_) | (with_reducible refine hK _ ?_; clear hK K) | ((with_reducible refine al ?_ ?_); (· decide)) | (with_reducible refine aa (h3) ?_))
def CoK (f : FuncId) (B : Nat) (g : PS → Co × PS) : Prop := ∀ s : PS, s.mu < B → AFn Tryd.prog f [.loc 20000 0] [pA s] (.agg (coA (g s).1)) [pA (g s).2]
def bw : Nat → List Nat
  | 0 => [0]
  | 1 => [0, 2]
  | 2 => [0, 2, 3]
  | 3 => [0, 2, 3]
  | 4 => [0, 2, 3, 4]
  | 5 => [2, 3]
  | _ => []
set_option maxRecDepth 100000 in
set_option maxHeartbeats 4000000 in
theorem tr {B : Nat} {g : PS → Co × PS} (hg : CoK 72 B g) (hmu : ∀ s, (g s).2.mu ≤ s.mu) : CoK 69 B (i4 g) := by
  intro s hs
  obtain ⟨R, hR⟩ : ∃ R, R = i4 g s := ⟨_, rfl⟩
  rw [← hR]
  unfold i4 at hR
  have h1 := hg s hs
  have hm0 := dR (g s).2
  have hm1 := hmu s
  generalize g s = q at *
  obtain ⟨⟨k0, e0, ks0⟩, s0⟩ := q
  simp only [coA] at h1
  refine aM [] Tryd.func69 rfl Tryd.ntmps69 (Nat.le_of_ble_eq_true rfl) (Nat.le_of_ble_eq_true rfl) fun w0 G0 B0 Pr hB0 => ?_
  simp only [aS, aJ, List.cons_append, List.nil_append]
  repeat' (first | (with_reducible refine hY _ ?_; clear hY Y) | ((with_reducible first | refine aD rfl (aN fun K' hK' => ab ?_) | refine hK' _ (ac fun Y hY => ab ?_) | refine ae tk0 bw (ac fun Y hY => ab ?_) | refine ab ?_); (try clear hK' K'); (try dsimp only [aop]); try simp only [go_sem, ↓reduceIte, Nat.reduceEqDiff, Nat.reduceLT, Nat.reduceLeDiff, Nat.reduceAdd, Nat.reduceSub, Nat.reduceMul, Nat.reduceBEq, Nat.reduceBNe, Nat.reducePow, Int.reduceToNat, Int.reduceLE, Int.reduceLT, Int.reduceMul, Int.reduceEq, Int.reducePow, Int.reduceAdd, Int.reduceSub, Int.reduceNeg, reduceCtorEq, bw, Tryd.results69]) | (with_reducible first | refine aj ?_ | refine ar ?_ | refine au ?_ | refine aT fun K hK => ?_ | refine ax ?_ | refine bZ ?_) | (with_reducible refine hK _ ?_; clear hK K) | (with_reducible refine aa (h1) ?_))
  refine b7 (α := Nat × Co × PS) (fun p => [(0, .loc 20000 0), (2, .loc 10002 0), (3, .loc 10003 0), (10002, .bc (coA coZ) 41), (10003, .bc (coA p.2.1) 41), (20000, pA p.2.2)])
    (fun p => dE [38, 38] (fun a b => .mk 7 [] [a, b]) g p.1 p.2.1 p.2.2 = R ∧ p.2.2.mu < p.1 ∧ p.2.2.mu < B) (fun p => p.1) (FU, .mk k0 e0 ks0, s0) [0, 2, 3] ?_ ⟨hR.symm, hm0, Nat.lt_of_le_of_lt hm1 hs⟩ ?_
  · simp only [go_sem, ↓reduceIte, Nat.reduceEqDiff, Nat.reduceLT, Nat.reduceLeDiff, Nat.reduceAdd, Nat.reduceSub, Nat.reduceMul, Nat.reduceBEq, Nat.reduceBNe, Nat.reducePow, Int.reduceToNat, Int.reduceLE, Int.reduceLT, Int.reduceMul, Int.reduceEq, Int.reducePow, Int.reduceAdd, Int.reduceSub, Int.reduceNeg, reduceCtorEq] <;> rfl
  rintro ⟨f, ⟨k1, e1, ks1⟩, s1⟩ ⟨hgo, hmf, hmB⟩ ih
  simp only [coA, coZ, eG, b4] at ih hgo hmf hmB ⊢
  obtain ⟨f, rfl⟩ : ∃ f', f = f' + 1 := ⟨f - 1, by omega⟩
  rw [dE] at hgo
  have h3 := fz s1 [38, 38]
  unfold PS.take at h3
  by_cases hc : s1.is [38, 38] = true
  · have hm2 := bB hc
    have hm3 := hmu s1.drop
    have h4 := hg s1.drop (by omega)
    rw [if_pos hc] at hgo h3
    simp only at h3
    generalize g s1.drop = q2 at *
    obtain ⟨⟨k2, e2, ks2⟩, s2⟩ := q2
    simp only [coA] at h4 hgo hm3
    repeat' (first | (with_reducible refine hY _ ?_; clear hY Y) | ((with_reducible first | refine aD rfl (aN fun K' hK' => ab ?_) | refine hK' _ (ac fun Y hY => ab ?_) | refine ac fun Y hY => ab ?_ | refine ae tk0 bw (ac fun Y hY => ab ?_) | refine ab ?_); (try clear hK' K'); (try dsimp only [aop]); try simp only [go_sem, ↓reduceIte, Nat.reduceEqDiff, Nat.reduceLT, Nat.reduceLeDiff, Nat.reduceAdd, Nat.reduceSub, Nat.reduceMul, Nat.reduceBEq, Nat.reduceBNe, Nat.reducePow, Int.reduceToNat, Int.reduceLE, Int.reduceLT, Int.reduceMul, Int.reduceEq, Int.reducePow, Int.reduceAdd, Int.reduceSub, Int.reduceNeg, reduceCtorEq, bw, Tryd.results69]) | (with_reducible first | refine aj ?_ | refine ar ?_ | refine au ?_ | refine aT fun K hK => ?_ | refine aK ?_ | refine a8 ?_ | refine ax ?_ | refine aP ?_) | (with_reducible refine hK _ ?_; clear hK K) | ((with_reducible refine al ?_ ?_); (· decide)) | (with_reducible refine aa (h3) ?_) | (with_reducible refine aa (h4) ?_))
    refine bI [0, 2, 3] (by simp only [go_sem, ↓reduceIte, Nat.reduceEqDiff, Nat.reduceLT, Nat.reduceLeDiff, Nat.reduceAdd, Nat.reduceSub, Nat.reduceMul, Nat.reduceBEq, Nat.reduceBNe, Nat.reducePow, Int.reduceToNat, Int.reduceLE, Int.reduceLT, Int.reduceMul, Int.reduceEq, Int.reducePow, Int.reduceAdd, Int.reduceSub, Int.reduceNeg, reduceCtorEq]; exact rfl) ?_
    refine et (ih (f, _, s2) ⟨hgo, by simp only; omega, by simp only; omega⟩ (by simp only; omega)) ?_
    rfl
  · rw [if_neg hc] at hgo h3
    simp only at h3
    rw [← hgo]
    repeat' (first | (with_reducible refine hY _ ?_; clear hY Y) | ((with_reducible first | refine aD rfl (aN fun K' hK' => ab ?_) | refine hK' _ (ac fun Y hY => ab ?_) | refine ac fun Y hY => ab ?_ | refine ae tk0 bw (ac fun Y hY => ab ?_) | refine ab ?_ | refine av ?_); (try clear hK' K'); (try dsimp only [aop]); try simp only [go_sem, ↓reduceIte, Nat.reduceEqDiff, Nat.reduceLT, Nat.reduceLeDiff, Nat.reduceAdd, Nat.reduceSub, Nat.reduceMul, Nat.reduceBEq, Nat.reduceBNe, Nat.reducePow, Int.reduceToNat, Int.reduceLE, Int.reduceLT, Int.reduceMul, Int.reduceEq, Int.reducePow, Int.reduceAdd, Int.reduceSub, Int.reduceNeg, reduceCtorEq, bw, Tryd.results69]) | (with_reducible first | refine aj ?_ | refine ar ?_ | refine au ?_ | refine aT fun K hK => ?_ | refine aC ?_ | refine b3 ?_ | refine bG ?_ | refine aF ?_ | refine bH ?_) | (with_reducible refine hK _ ?_; clear hK K) | ((with_reducible refine al ?_ ?_); (· decide)) | (with_reducible refine aa (h3) ?_))
    all_goals first | rfl | exact ⟨rfl, rfl⟩
def bu : Nat → List Nat
  | 0 => [0]
  | 1 => [0, 2]
  | 2 => [0, 2, 3]
  | 3 => [0, 2, 3]
  | 4 => [0, 2, 3, 4]
  | 5 => [2, 3]
  | _ => []
set_option maxRecDepth 100000 in
set_option maxHeartbeats 4000000 in
theorem pU {B : Nat} {o : PS → Co × PS} (ho : CoK 72 B o) (hmo : ∀ s, (o s).2.mu ≤ s.mu) : CoK 62 B (gj o) := by
  intro s hs
  have hg := tr ho hmo
  have hmu := lc hmo
  obtain ⟨R, hR⟩ : ∃ R, R = gj o s := ⟨_, rfl⟩
  rw [← hR]
  unfold gj at hR
  generalize i4 o = g at *
  have h1 := hg s hs
  have hm0 := dR (g s).2
  have hm1 := hmu s
  generalize g s = q at *
  obtain ⟨⟨k0, e0, ks0⟩, s0⟩ := q
  simp only [coA] at h1
  refine aM [] Tryd.func62 rfl Tryd.ntmps62 (Nat.le_of_ble_eq_true rfl) (Nat.le_of_ble_eq_true rfl) fun w0 G0 B0 Pr hB0 => ?_
  simp only [aS, aJ, List.cons_append, List.nil_append]
  repeat' (first | (with_reducible refine hY _ ?_; clear hY Y) | ((with_reducible first | refine aD rfl (aN fun K' hK' => ab ?_) | refine hK' _ (ac fun Y hY => ab ?_) | refine ae tk0 bu (ac fun Y hY => ab ?_) | refine ab ?_); (try clear hK' K'); (try dsimp only [aop]); try simp only [go_sem, ↓reduceIte, Nat.reduceEqDiff, Nat.reduceLT, Nat.reduceLeDiff, Nat.reduceAdd, Nat.reduceSub, Nat.reduceMul, Nat.reduceBEq, Nat.reduceBNe, Nat.reducePow, Int.reduceToNat, Int.reduceLE, Int.reduceLT, Int.reduceMul, Int.reduceEq, Int.reducePow, Int.reduceAdd, Int.reduceSub, Int.reduceNeg, reduceCtorEq, bu, Tryd.results62]) | (with_reducible first | refine aj ?_ | refine ar ?_ | refine au ?_ | refine aT fun K hK => ?_ | refine ax ?_ | refine bZ ?_) | (with_reducible refine hK _ ?_; clear hK K) | (with_reducible refine aa (h1) ?_))
  refine b7 (α := Nat × Co × PS) (fun p => [(0, .loc 20000 0), (2, .loc 10002 0), (3, .loc 10003 0), (10002, .bc (coA coZ) 41), (10003, .bc (coA p.2.1) 41), (20000, pA p.2.2)])
    (fun p => dE [124, 124] (fun a b => .mk 8 [] [a, b]) g p.1 p.2.1 p.2.2 = R ∧ p.2.2.mu < p.1 ∧ p.2.2.mu < B) (fun p => p.1) (FU, .mk k0 e0 ks0, s0) [0, 2, 3] ?_ ⟨hR.symm, hm0, Nat.lt_of_le_of_lt hm1 hs⟩ ?_
  · simp only [go_sem, ↓reduceIte, Nat.reduceEqDiff, Nat.reduceLT, Nat.reduceLeDiff, Nat.reduceAdd, Nat.reduceSub, Nat.reduceMul, Nat.reduceBEq, Nat.reduceBNe, Nat.reducePow, Int.reduceToNat, Int.reduceLE, Int.reduceLT, Int.reduceMul, Int.reduceEq, Int.reducePow, Int.reduceAdd, Int.reduceSub, Int.reduceNeg, reduceCtorEq] <;> rfl
  rintro ⟨f, ⟨k1, e1, ks1⟩, s1⟩ ⟨hgo, hmf, hmB⟩ ih
  simp only [coA, coZ, eG, b4] at ih hgo hmf hmB ⊢
  obtain ⟨f, rfl⟩ : ∃ f', f = f' + 1 := ⟨f - 1, by omega⟩
  rw [dE] at hgo
  have h3 := fz s1 [124, 124]
  unfold PS.take at h3
  by_cases hc : s1.is [124, 124] = true
  · have hm2 := bB hc
    have hm3 := hmu s1.drop
    have h4 := hg s1.drop (by omega)
    rw [if_pos hc] at hgo h3
    simp only at h3
    generalize g s1.drop = q2 at *
    obtain ⟨⟨k2, e2, ks2⟩, s2⟩ := q2
    simp only [coA] at h4 hgo hm3
    repeat' (first | (with_reducible refine hY _ ?_; clear hY Y) | ((with_reducible first | refine aD rfl (aN fun K' hK' => ab ?_) | refine hK' _ (ac fun Y hY => ab ?_) | refine ac fun Y hY => ab ?_ | refine ae tk0 bu (ac fun Y hY => ab ?_) | refine ab ?_); (try clear hK' K'); (try dsimp only [aop]); try simp only [go_sem, ↓reduceIte, Nat.reduceEqDiff, Nat.reduceLT, Nat.reduceLeDiff, Nat.reduceAdd, Nat.reduceSub, Nat.reduceMul, Nat.reduceBEq, Nat.reduceBNe, Nat.reducePow, Int.reduceToNat, Int.reduceLE, Int.reduceLT, Int.reduceMul, Int.reduceEq, Int.reducePow, Int.reduceAdd, Int.reduceSub, Int.reduceNeg, reduceCtorEq, bu, Tryd.results62]) | (with_reducible first | refine aj ?_ | refine ar ?_ | refine au ?_ | refine aT fun K hK => ?_ | refine aK ?_ | refine a8 ?_ | refine ax ?_ | refine aP ?_) | (with_reducible refine hK _ ?_; clear hK K) | ((with_reducible refine al ?_ ?_); (· decide)) | (with_reducible refine aa (h3) ?_) | (with_reducible refine aa (h4) ?_))
    refine bI [0, 2, 3] (by simp only [go_sem, ↓reduceIte, Nat.reduceEqDiff, Nat.reduceLT, Nat.reduceLeDiff, Nat.reduceAdd, Nat.reduceSub, Nat.reduceMul, Nat.reduceBEq, Nat.reduceBNe, Nat.reducePow, Int.reduceToNat, Int.reduceLE, Int.reduceLT, Int.reduceMul, Int.reduceEq, Int.reducePow, Int.reduceAdd, Int.reduceSub, Int.reduceNeg, reduceCtorEq]; exact rfl) ?_
    refine et (ih (f, _, s2) ⟨hgo, by simp only; omega, by simp only; omega⟩ (by simp only; omega)) ?_
    rfl
  · rw [if_neg hc] at hgo h3
    simp only at h3
    rw [← hgo]
    repeat' (first | (with_reducible refine hY _ ?_; clear hY Y) | ((with_reducible first | refine aD rfl (aN fun K' hK' => ab ?_) | refine hK' _ (ac fun Y hY => ab ?_) | refine ac fun Y hY => ab ?_ | refine ae tk0 bu (ac fun Y hY => ab ?_) | refine ab ?_ | refine av ?_); (try clear hK' K'); (try dsimp only [aop]); try simp only [go_sem, ↓reduceIte, Nat.reduceEqDiff, Nat.reduceLT, Nat.reduceLeDiff, Nat.reduceAdd, Nat.reduceSub, Nat.reduceMul, Nat.reduceBEq, Nat.reduceBNe, Nat.reducePow, Int.reduceToNat, Int.reduceLE, Int.reduceLT, Int.reduceMul, Int.reduceEq, Int.reducePow, Int.reduceAdd, Int.reduceSub, Int.reduceNeg, reduceCtorEq, bu, Tryd.results62]) | (with_reducible first | refine aj ?_ | refine ar ?_ | refine au ?_ | refine aT fun K hK => ?_ | refine aC ?_ | refine b3 ?_ | refine bG ?_ | refine aF ?_ | refine bH ?_) | (with_reducible refine hK _ ?_; clear hK K) | ((with_reducible refine al ?_ ?_); (· decide)) | (with_reducible refine aa (h3) ?_))
    all_goals first | rfl | exact ⟨rfl, rfl⟩
def cq : Nat → List Nat
  | 0 => [0]
  | 1 => [0, 2]
  | 2 => [0, 2]
  | 3 => [0, 2, 3]
  | 4 => [0, 2, 3]
  | 5 => [2, 3]
  | _ => []
set_option maxRecDepth 100000 in
set_option maxHeartbeats 4000000 in
theorem kC {B : Nat} {o : PS → Co × PS} (ho : CoK 72 B o) (hmo : ∀ s, (o s).2.mu ≤ s.mu) (s : PS) (hs : s.mu < B + 1) (hb : s.is [91] = true ∨ s.mu < B) :
    AFn Tryd.prog 58 [.loc 20000 0] [pA s] (.agg (coA (dm o s).1)) [pA (dm o s).2] := by
  have hm : (s.open' [91]).mu < B := by
    rcases hb with hb | hb
    · have := eS hb; omega
    · have := dH s [91]; omega
  have h1 := jn s [91]
  have h2 := pU ho hmo (s.open' [91]) hm
  unfold dm
  simp only
  generalize s.open' [91] = s1 at *
  generalize gj o s1 = q at *
  obtain ⟨⟨k0, e0, ks0⟩, s0⟩ := q
  have h3 := ka s0 [[93]] .full (by simp)
  simp only [List.map_cons, List.map_nil, List.length_cons, List.length_nil] at h3
  have h4 := fd (s0.due [[93]])
  simp only [coA] at h2 ⊢
  generalize s0.due [[93]] = s5 at *
  refine aM [] Tryd.func58 rfl Tryd.ntmps58 (Nat.le_of_ble_eq_true rfl) (Nat.le_of_ble_eq_true rfl) fun w0 G0 B0 Pr hB0 => ?_
  simp only [aS, aJ, List.cons_append, List.nil_append]
  repeat' (first | (with_reducible refine hY _ ?_; clear hY Y) | ((with_reducible first | refine aD rfl (aN fun K' hK' => ab ?_) | refine hK' _ (ac fun Y hY => ab ?_) | refine ae tk0 cq (ac fun Y hY => ab ?_) | refine ab ?_ | refine av ?_); (try clear hK' K'); (try dsimp only [aop]); try simp only [go_sem, ↓reduceIte, Nat.reduceEqDiff, Nat.reduceLT, Nat.reduceLeDiff, Nat.reduceAdd, Nat.reduceSub, Nat.reduceMul, Nat.reduceBEq, Nat.reduceBNe, Nat.reducePow, Int.reduceToNat, Int.reduceLE, Int.reduceLT, Int.reduceMul, Int.reduceEq, Int.reducePow, Int.reduceAdd, Int.reduceSub, Int.reduceNeg, reduceCtorEq, cq, Tryd.results58]) | (with_reducible first | refine aj ?_ | refine ar ?_ | refine au ?_ | refine aT fun K hK => ?_ | refine aF ?_) | (with_reducible refine hK _ ?_; clear hK K) | (with_reducible refine aa (h1) ?_) | (with_reducible refine aa (h2) ?_) | (with_reducible refine aa (h3) ?_) | (with_reducible refine aa (h4) ?_))
  all_goals first | rfl | exact ⟨rfl, rfl⟩
end Go.Proofs.YtpkcgdikbjaoaaaDoor
