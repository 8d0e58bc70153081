/- The document's reader in K: lists of expressions, conditions. -/
import Derived.Test.YtpkcgdikbjaoaaaGreatDoorZ27
import Derived.Test.YtpkcgdikbjaoaaaGreatDoorZ25
namespace Go.Proofs.YtpkcgdikbjaoaaaGreatDoor
set_option linter.unusedSimpArgs false
set_option linter.unusedVariables false
open Go.RowKit
def bF : Nat → List Nat
  | 0 => [0, 1]
  | 1 => [0, 1]
  | 2 => []
  | 3 => [0]
  | 4 => [0, 5]
  | 5 => [0, 5]
  | 6 => [0, 5]
  | 7 => [5]
  | _ => []
set_option maxRecDepth 100000 in
set_option maxHeartbeats 4000000 in
theorem te (r : RS) (u : Wd) : AFn Tryz.prog 92 [.loc 20000 0, bs u] [rA r] (.sl (cW (r.exprs u).1) (r.exprs u).1.length .none) [rA (r.exprs u).2] := by
  have h1 := eB r
  have h2 := dX r
  unfold RS.exprs
  by_cases h : r.next = u
  · rw [if_pos h]
    have hne : (r.next == u) = true := by simpa using h
    generalize r.next = x at *
    refine dy (r := .sl [] 0 .full) ?_ 1 rfl
    refine aK [] Tryz.func92 rfl Tryz.ntmps92 (Nat.le_of_ble_eq_true rfl) (Nat.le_of_ble_eq_true rfl) fun w0 G0 B0 Pr hB0 => ?_
    simp only [aQ, aI, List.cons_append, List.nil_append]
    repeat' (first | (with_reducible refine hY _ ?_; clear hY Y) | ((with_reducible first | refine av rfl (aD fun K' hK' => ab ?_) | refine hK' _ (ac fun Y hY => ab ?_) | refine ac fun Y hY => ab ?_ | refine ae tk0 bF (ac fun Y hY => ab ?_) | refine ab ?_ | refine ap ?_); (try clear hK' K'); (try dsimp only [aop]); try simp only [go_sem, ↓reduceIte, Nat.reduceEqDiff, Nat.reduceLT, Nat.reduceLeDiff, Nat.reduceAdd, Nat.reduceSub, Nat.reduceMul, Nat.reduceBEq, Nat.reduceBNe, Nat.reducePow, Int.reduceToNat, Int.reduceLE, Int.reduceLT, Int.reduceMul, Int.reduceEq, Int.reducePow, Int.reduceAdd, Int.reduceSub, Int.reduceNeg, reduceCtorEq, bF, Tryz.results92, hne]) | (with_reducible first | refine ai ?_ | refine al ?_ | refine am ?_ | refine aL fun K hK => ?_ | refine ax ?_ | refine bg ?_ | refine az ?_) | (with_reducible refine hK _ ?_; clear hK K) | ((with_reducible refine ah ?_ ?_); (· decide)) | (with_reducible refine aa (h1) ?_) | (with_reducible refine be (aU _) ?_))
  rw [if_neg h]
  have hne : (r.next == u) = false := by simpa using h
  obtain ⟨R, hR⟩ : ∃ R, R = iD [44] cy FU [(cy r).1] (cy r).2 := ⟨_, rfl⟩
  rw [← hR]
  have hm0 := fS (cy r).2
  generalize r.next = x at *
  generalize cy r = q at *
  obtain ⟨⟨k0, n0, x0, ks0⟩, r0⟩ := q
  simp only [exA] at h2
  refine aK [] Tryz.func92 rfl Tryz.ntmps92 (Nat.le_of_ble_eq_true rfl) (Nat.le_of_ble_eq_true rfl) fun w0 G0 B0 Pr hB0 => ?_
  simp only [aQ, aI, List.cons_append, List.nil_append]
  repeat' (first | (with_reducible refine hY _ ?_; clear hY Y) | ((with_reducible first | refine av rfl (aD fun K' hK' => ab ?_) | refine hK' _ (ac fun Y hY => ab ?_) | refine ac fun Y hY => ab ?_ | refine ae tk0 bF (ac fun Y hY => ab ?_) | refine ab ?_); (try clear hK' K'); (try dsimp only [aop]); try simp only [go_sem, ↓reduceIte, Nat.reduceEqDiff, Nat.reduceLT, Nat.reduceLeDiff, Nat.reduceAdd, Nat.reduceSub, Nat.reduceMul, Nat.reduceBEq, Nat.reduceBNe, Nat.reducePow, Int.reduceToNat, Int.reduceLE, Int.reduceLT, Int.reduceMul, Int.reduceEq, Int.reducePow, Int.reduceAdd, Int.reduceSub, Int.reduceNeg, reduceCtorEq, bF, Tryz.results92, hne]) | (with_reducible first | refine ai ?_ | refine al ?_ | refine am ?_ | refine aL fun K hK => ?_ | refine ar ?_ | refine aq ?_ | refine aC ?_ | refine bx ?_) | (with_reducible refine hK _ ?_; clear hK K) | ((with_reducible refine ah ?_ ?_); (· decide)) | (with_reducible refine aa (h1) ?_) | (with_reducible refine aa (h2) ?_) | (with_reducible refine be (aU _) ?_))
  refine fw (gk (b := 10027) (t := 5) 42 (by decide) (by decide) rfl rfl) ?_
  refine cw (α := Nat × List Ex × RS) (fun p => [(0, .loc 20000 0), (5, .sl (cW p.2.1) p.2.1.length (.tok 10027)), (10027, .bt p.2.1.length 42), (20000, rA p.2.2)])
    (fun p => iD [44] cy p.1 p.2.1 p.2.2 = R ∧ p.2.2.mu < p.1 ∧ p.2.1.length + p.1 ≤ 80000) (fun p => p.1) (FU, [.mk k0 n0 x0 ks0], r0) [0, 5] ?_ ⟨hR.symm, hm0, (by simp [FU])⟩ ?_
  · simp only [go_sem, ↓reduceIte, Nat.reduceEqDiff, Nat.reduceLT, Nat.reduceLeDiff, Nat.reduceAdd, Nat.reduceSub, Nat.reduceMul, Nat.reduceBEq, Nat.reduceBNe, Nat.reducePow, Int.reduceToNat, Int.reduceLE, Int.reduceLT, Int.reduceMul, Int.reduceEq, Int.reducePow, Int.reduceAdd, Int.reduceSub, Int.reduceNeg, reduceCtorEq] <;> rfl
  rintro ⟨f, out, r1⟩ ⟨hgo, hmu, hlen⟩ ih
  simp only at ih hgo hmu hlen ⊢
  obtain ⟨f, rfl⟩ : ∃ f', f = f' + 1 := ⟨f - 1, by omega⟩
  rw [iD] at hgo
  have h3 := eB r1
  clear h1 h2 hne
  by_cases hc : r1.next = [44]
  · obtain ⟨_, t, ht, _⟩ := cA (by simp) hc
    have hm2 := cO (by simp) hc
    have h4 := dX r1.bump
    have hm1 := dP r1.bump
    have hbw := dt r1
    rw [if_pos hc] at hgo
    rw [hc] at h3
    rw [cU ht] at h4
    generalize cy r1.bump = q2 at *
    obtain ⟨⟨k2, n2, x2, ks2⟩, r2⟩ := q2
    simp only [exA] at h4
    repeat' (first | (with_reducible refine hY _ ?_; clear hY Y) | ((with_reducible first | refine av rfl (aD fun K' hK' => ab ?_) | refine hK' _ (ac fun Y hY => ab ?_) | refine ac fun Y hY => ab ?_ | refine ae tk0 bF (ac fun Y hY => ab ?_) | refine ab ?_); (try clear hK' K'); (try dsimp only [aop]); try simp only [go_sem, ↓reduceIte, Nat.reduceEqDiff, Nat.reduceLT, Nat.reduceLeDiff, Nat.reduceAdd, Nat.reduceSub, Nat.reduceMul, Nat.reduceBEq, Nat.reduceBNe, Nat.reducePow, Int.reduceToNat, Int.reduceLE, Int.reduceLT, Int.reduceMul, Int.reduceEq, Int.reducePow, Int.reduceAdd, Int.reduceSub, Int.reduceNeg, reduceCtorEq, bF, Tryz.results92, kJ, hbw, beq_self_eq_true]) | (with_reducible first | refine ai ?_ | refine al ?_ | refine am ?_ | refine aL fun K hK => ?_ | refine ax ?_ | refine aO ?_ | refine aq ?_ | refine aC ?_) | (with_reducible refine hK _ ?_; clear hK K) | ((with_reducible refine ah ?_ ?_); (· decide)) | (with_reducible refine bQ ?_ ?_; (· (try and_intros) <;> first | omega | assumption | (simp only [List.length_append, List.length_map, List.length_cons, List.length_nil] <;> omega))) | (with_reducible refine aa (h3) ?_) | (with_reducible refine aa (h4) ?_) | (with_reducible refine be (aU _) ?_))
    refine bA [0, 5] (by simp only [go_sem, ↓reduceIte, Nat.reduceEqDiff, Nat.reduceLT, Nat.reduceLeDiff, Nat.reduceAdd, Nat.reduceSub, Nat.reduceMul, Nat.reduceBEq, Nat.reduceBNe, Nat.reducePow, Int.reduceToNat, Int.reduceLE, Int.reduceLT, Int.reduceMul, Int.reduceEq, Int.reducePow, Int.reduceAdd, Int.reduceSub, Int.reduceNeg, reduceCtorEq]; exact rfl) ?_
    refine dw (ih (f, out ++ [.mk k2 n2 x2 ks2], r2) ⟨hgo, Nat.lt_of_le_of_lt hm1 (by omega), (by simp only [List.length_append, List.length_cons, List.length_nil]; omega)⟩ (by simp only; omega)) ?_
    simp [lZ, cW, exA]
  · rw [if_neg hc] at hgo
    have hne : (r1.next == [44]) = false := by simpa using hc
    subst hgo
    generalize r1.next = x at *
    repeat' (first | (with_reducible refine hY _ ?_; clear hY Y) | ((with_reducible first | refine av rfl (aD fun K' hK' => ab ?_) | refine hK' _ (ac fun Y hY => ab ?_) | refine ac fun Y hY => ab ?_ | refine ae tk0 bF (ac fun Y hY => ab ?_) | refine ab ?_ | refine ap ?_); (try clear hK' K'); (try dsimp only [aop]); try simp only [go_sem, ↓reduceIte, Nat.reduceEqDiff, Nat.reduceLT, Nat.reduceLeDiff, Nat.reduceAdd, Nat.reduceSub, Nat.reduceMul, Nat.reduceBEq, Nat.reduceBNe, Nat.reducePow, Int.reduceToNat, Int.reduceLE, Int.reduceLT, Int.reduceMul, Int.reduceEq, Int.reducePow, Int.reduceAdd, Int.reduceSub, Int.reduceNeg, reduceCtorEq, bF, Tryz.results92, hne]) | (with_reducible first | refine ai ?_ | refine al ?_ | refine am ?_ | refine aL fun K hK => ?_ | refine ar ?_ | refine bN ?_ | refine bo ?_ | refine az ?_ | refine bq ?_) | (with_reducible refine hK _ ?_; clear hK K) | ((with_reducible refine ah ?_ ?_); (· decide)) | (with_reducible refine aa (h3) ?_) | (with_reducible refine be (aU _) ?_))
def RcK (f : FuncId) (B : Nat) (g : RS → Co × RS) : Prop := ∀ r : RS, r.mu < B → AFn Tryz.prog f [.loc 20000 0] [rA r] (.agg (coA (g r).1)) [rA (g r).2]
def cj : Nat → List Nat
  | 0 => [0]
  | 1 => [0, 2]
  | 2 => [0, 2, 3]
  | 3 => [0, 2, 3]
  | 4 => [0, 2, 3]
  | 5 => [0, 2, 3, 4]
  | 6 => [2, 3]
  | _ => []
set_option maxRecDepth 100000 in
set_option maxHeartbeats 4000000 in
theorem zt {B : Nat} {g : RS → Co × RS} (hg : RcK 101 B g) (hmu : ∀ r, (g r).2.mu ≤ r.mu) : RcK 90 B (jr g) := by
  intro r hs
  obtain ⟨R, hR⟩ : ∃ R, R = jr g r := ⟨_, rfl⟩
  rw [← hR]
  unfold jr at hR
  have h1 := hg r hs
  have hm0 := fS (g r).2
  have hm1 := hmu r
  generalize g r = q at *
  obtain ⟨⟨k0, e0, ks0⟩, r0⟩ := q
  simp only [coA] at h1
  refine aK [] Tryz.func90 rfl Tryz.ntmps90 (Nat.le_of_ble_eq_true rfl) (Nat.le_of_ble_eq_true rfl) fun w0 G0 B0 Pr hB0 => ?_
  simp only [aQ, aI, List.cons_append, List.nil_append]
  repeat' (first | (with_reducible refine hY _ ?_; clear hY Y) | ((with_reducible first | refine av rfl (aD fun K' hK' => ab ?_) | refine hK' _ (ac fun Y hY => ab ?_) | refine ae tk0 cj (ac fun Y hY => ab ?_) | refine ab ?_); (try clear hK' K'); (try dsimp only [aop]); try simp only [go_sem, ↓reduceIte, Nat.reduceEqDiff, Nat.reduceLT, Nat.reduceLeDiff, Nat.reduceAdd, Nat.reduceSub, Nat.reduceMul, Nat.reduceBEq, Nat.reduceBNe, Nat.reducePow, Int.reduceToNat, Int.reduceLE, Int.reduceLT, Int.reduceMul, Int.reduceEq, Int.reducePow, Int.reduceAdd, Int.reduceSub, Int.reduceNeg, reduceCtorEq, cj, Tryz.results90]) | (with_reducible first | refine ai ?_ | refine al ?_ | refine am ?_ | refine aL fun K hK => ?_ | refine aq ?_ | refine bx ?_) | (with_reducible refine hK _ ?_; clear hK K) | (with_reducible refine aa (h1) ?_))
  refine cw (α := Nat × Co × RS) (fun p => [(0, .loc 20000 0), (2, .loc 10002 0), (3, .loc 10003 0), (10002, .bc (coA coZ) 40), (10003, .bc (coA p.2.1) 40), (20000, rA p.2.2)])
    (fun p => fL [38, 38] (fun a b => .mk 7 [] [a, b]) g p.1 p.2.1 p.2.2 = R ∧ p.2.2.mu < p.1 ∧ p.2.2.mu < B) (fun p => p.1) (FU, .mk k0 e0 ks0, r0) [0, 2, 3] ?_ ⟨hR.symm, hm0, Nat.lt_of_le_of_lt hm1 hs⟩ ?_
  · simp only [go_sem, ↓reduceIte, Nat.reduceEqDiff, Nat.reduceLT, Nat.reduceLeDiff, Nat.reduceAdd, Nat.reduceSub, Nat.reduceMul, Nat.reduceBEq, Nat.reduceBNe, Nat.reducePow, Int.reduceToNat, Int.reduceLE, Int.reduceLT, Int.reduceMul, Int.reduceEq, Int.reducePow, Int.reduceAdd, Int.reduceSub, Int.reduceNeg, reduceCtorEq] <;> rfl
  rintro ⟨f, ⟨k1, e1, ks1⟩, r1⟩ ⟨hgo, hmf, hmB⟩ ih
  simp only [coA, coZ, eV, cW] at ih hgo hmf hmB ⊢
  obtain ⟨f, rfl⟩ : ∃ f', f = f' + 1 := ⟨f - 1, by omega⟩
  rw [fL] at hgo
  have h3 := eB r1
  by_cases hc : r1.next = [38, 38]
  · obtain ⟨_, t, ht, _⟩ := cA (by simp) hc
    have hm2 := cO (by simp) hc
    have hm3 := hmu r1.bump
    have h4 := hg r1.bump (by omega)
    have hbw := dt r1
    rw [if_pos hc] at hgo
    rw [hc] at h3
    rw [cU ht] at h4
    generalize g r1.bump = q2 at *
    obtain ⟨⟨k2, e2, ks2⟩, r2⟩ := q2
    simp only [coA] at h4 hgo hm3
    repeat' (first | (with_reducible refine hY _ ?_; clear hY Y) | ((with_reducible first | refine av rfl (aD fun K' hK' => ab ?_) | refine hK' _ (ac fun Y hY => ab ?_) | refine ac fun Y hY => ab ?_ | refine ae tk0 cj (ac fun Y hY => ab ?_) | refine ab ?_); (try clear hK' K'); (try dsimp only [aop]); try simp only [go_sem, ↓reduceIte, Nat.reduceEqDiff, Nat.reduceLT, Nat.reduceLeDiff, Nat.reduceAdd, Nat.reduceSub, Nat.reduceMul, Nat.reduceBEq, Nat.reduceBNe, Nat.reducePow, Int.reduceToNat, Int.reduceLE, Int.reduceLT, Int.reduceMul, Int.reduceEq, Int.reducePow, Int.reduceAdd, Int.reduceSub, Int.reduceNeg, reduceCtorEq, cj, Tryz.results90, hbw, beq_self_eq_true]) | (with_reducible first | refine ai ?_ | refine al ?_ | refine am ?_ | refine aL fun K hK => ?_ | refine ax ?_ | refine aO ?_ | refine aq ?_ | refine aC ?_) | (with_reducible refine hK _ ?_; clear hK K) | ((with_reducible refine ah ?_ ?_); (· decide)) | (with_reducible refine aa (h3) ?_) | (with_reducible refine aa (h4) ?_) | (with_reducible refine be (aU _) ?_))
    refine bA [0, 2, 3] (by simp only [go_sem, ↓reduceIte, Nat.reduceEqDiff, Nat.reduceLT, Nat.reduceLeDiff, Nat.reduceAdd, Nat.reduceSub, Nat.reduceMul, Nat.reduceBEq, Nat.reduceBNe, Nat.reducePow, Int.reduceToNat, Int.reduceLE, Int.reduceLT, Int.reduceMul, Int.reduceEq, Int.reducePow, Int.reduceAdd, Int.reduceSub, Int.reduceNeg, reduceCtorEq]; exact rfl) ?_
    refine dw (ih (f, _, r2) ⟨hgo, by simp only; omega, by simp only; omega⟩ (by simp only; omega)) ?_
    rfl
  · rw [if_neg hc] at hgo
    have hne : (r1.next == [38, 38]) = false := by simpa using hc
    rw [← hgo]
    generalize r1.next = x at *
    repeat' (first | (with_reducible refine hY _ ?_; clear hY Y) | ((with_reducible first | refine av rfl (aD fun K' hK' => ab ?_) | refine hK' _ (ac fun Y hY => ab ?_) | refine ac fun Y hY => ab ?_ | refine ae tk0 cj (ac fun Y hY => ab ?_) | refine ab ?_ | refine ap ?_); (try clear hK' K'); (try dsimp only [aop]); try simp only [go_sem, ↓reduceIte, Nat.reduceEqDiff, Nat.reduceLT, Nat.reduceLeDiff, Nat.reduceAdd, Nat.reduceSub, Nat.reduceMul, Nat.reduceBEq, Nat.reduceBNe, Nat.reducePow, Int.reduceToNat, Int.reduceLE, Int.reduceLT, Int.reduceMul, Int.reduceEq, Int.reducePow, Int.reduceAdd, Int.reduceSub, Int.reduceNeg, reduceCtorEq, cj, Tryz.results90, hne]) | (with_reducible first | refine ai ?_ | refine al ?_ | refine am ?_ | refine aL fun K hK => ?_ | refine ar ?_ | refine bN ?_ | refine bo ?_ | refine az ?_ | refine bq ?_) | (with_reducible refine hK _ ?_; clear hK K) | ((with_reducible refine ah ?_ ?_); (· decide)) | (with_reducible refine aa (h3) ?_) | (with_reducible refine be (aU _) ?_))
    all_goals first | rfl | exact ⟨rfl, rfl⟩
def cc : Nat → List Nat
  | 0 => [0]
  | 1 => [0, 2]
  | 2 => [0, 2, 3]
  | 3 => [0, 2, 3]
  | 4 => [0, 2, 3]
  | 5 => [0, 2, 3, 4]
  | 6 => [2, 3]
  | _ => []
set_option maxRecDepth 100000 in
set_option maxHeartbeats 4000000 in
theorem to {B : Nat} {o : RS → Co × RS} (ho : RcK 101 B o) (hmo : ∀ r, (o r).2.mu ≤ r.mu) : RcK 68 B (gX o) := by
  intro r hs
  have hg := zt ho hmo
  have hmu := mK hmo
  obtain ⟨R, hR⟩ : ∃ R, R = gX o r := ⟨_, rfl⟩
  rw [← hR]
  unfold gX at hR
  generalize jr o = g at *
  have h1 := hg r hs
  have hm0 := fS (g r).2
  have hm1 := hmu r
  generalize g r = q at *
  obtain ⟨⟨k0, e0, ks0⟩, r0⟩ := q
  simp only [coA] at h1
  refine aK [] Tryz.func68 rfl Tryz.ntmps68 (Nat.le_of_ble_eq_true rfl) (Nat.le_of_ble_eq_true rfl) fun w0 G0 B0 Pr hB0 => ?_
  simp only [aQ, aI, List.cons_append, List.nil_append]
  repeat' (first | (with_reducible refine hY _ ?_; clear hY Y) | ((with_reducible first | refine av rfl (aD fun K' hK' => ab ?_) | refine hK' _ (ac fun Y hY => ab ?_) | refine ae tk0 cc (ac fun Y hY => ab ?_) | refine ab ?_); (try clear hK' K'); (try dsimp only [aop]); try simp only [go_sem, ↓reduceIte, Nat.reduceEqDiff, Nat.reduceLT, Nat.reduceLeDiff, Nat.reduceAdd, Nat.reduceSub, Nat.reduceMul, Nat.reduceBEq, Nat.reduceBNe, Nat.reducePow, Int.reduceToNat, Int.reduceLE, Int.reduceLT, Int.reduceMul, Int.reduceEq, Int.reducePow, Int.reduceAdd, Int.reduceSub, Int.reduceNeg, reduceCtorEq, cc, Tryz.results68]) | (with_reducible first | refine ai ?_ | refine al ?_ | refine am ?_ | refine aL fun K hK => ?_ | refine aq ?_ | refine bx ?_) | (with_reducible refine hK _ ?_; clear hK K) | (with_reducible refine aa (h1) ?_))
  refine cw (α := Nat × Co × RS) (fun p => [(0, .loc 20000 0), (2, .loc 10002 0), (3, .loc 10003 0), (10002, .bc (coA coZ) 40), (10003, .bc (coA p.2.1) 40), (20000, rA p.2.2)])
    (fun p => fL [124, 124] (fun a b => .mk 8 [] [a, b]) g p.1 p.2.1 p.2.2 = R ∧ p.2.2.mu < p.1 ∧ p.2.2.mu < B) (fun p => p.1) (FU, .mk k0 e0 ks0, r0) [0, 2, 3] ?_ ⟨hR.symm, hm0, Nat.lt_of_le_of_lt hm1 hs⟩ ?_
  · simp only [go_sem, ↓reduceIte, Nat.reduceEqDiff, Nat.reduceLT, Nat.reduceLeDiff, Nat.reduceAdd, Nat.reduceSub, Nat.reduceMul, Nat.reduceBEq, Nat.reduceBNe, Nat.reducePow, Int.reduceToNat, Int.reduceLE, Int.reduceLT, Int.reduceMul, Int.reduceEq, Int.reducePow, Int.reduceAdd, Int.reduceSub, Int.reduceNeg, reduceCtorEq] <;> rfl
  rintro ⟨f, ⟨k1, e1, ks1⟩, r1⟩ ⟨hgo, hmf, hmB⟩ ih
  simp only [coA, coZ, eV, cW] at ih hgo hmf hmB ⊢
  obtain ⟨f, rfl⟩ : ∃ f', f = f' + 1 := ⟨f - 1, by omega⟩
  rw [fL] at hgo
  have h3 := eB r1
  by_cases hc : r1.next = [124, 124]
  · obtain ⟨_, t, ht, _⟩ := cA (by simp) hc
    have hm2 := cO (by simp) hc
    have hm3 := hmu r1.bump
    have h4 := hg r1.bump (by omega)
    have hbw := dt r1
    rw [if_pos hc] at hgo
    rw [hc] at h3
    rw [cU ht] at h4
    generalize g r1.bump = q2 at *
    obtain ⟨⟨k2, e2, ks2⟩, r2⟩ := q2
    simp only [coA] at h4 hgo hm3
    repeat' (first | (with_reducible refine hY _ ?_; clear hY Y) | ((with_reducible first | refine av rfl (aD fun K' hK' => ab ?_) | refine hK' _ (ac fun Y hY => ab ?_) | refine ac fun Y hY => ab ?_ | refine ae tk0 cc (ac fun Y hY => ab ?_) | refine ab ?_); (try clear hK' K'); (try dsimp only [aop]); try simp only [go_sem, ↓reduceIte, Nat.reduceEqDiff, Nat.reduceLT, Nat.reduceLeDiff, Nat.reduceAdd, Nat.reduceSub, Nat.reduceMul, Nat.reduceBEq, Nat.reduceBNe, Nat.reducePow, Int.reduceToNat, Int.reduceLE, Int.reduceLT, Int.reduceMul, Int.reduceEq, Int.reducePow, Int.reduceAdd, Int.reduceSub, Int.reduceNeg, reduceCtorEq, cc, Tryz.results68, hbw, beq_self_eq_true]) | (with_reducible first | refine ai ?_ | refine al ?_ | refine am ?_ | refine aL fun K hK => ?_ | refine ax ?_ | refine aO ?_ | refine aq ?_ | refine aC ?_) | (with_reducible refine hK _ ?_; clear hK K) | ((with_reducible refine ah ?_ ?_); (· decide)) | (with_reducible refine aa (h3) ?_) | (with_reducible refine aa (h4) ?_) | (with_reducible refine be (aU _) ?_))
    refine bA [0, 2, 3] (by simp only [go_sem, ↓reduceIte, Nat.reduceEqDiff, Nat.reduceLT, Nat.reduceLeDiff, Nat.reduceAdd, Nat.reduceSub, Nat.reduceMul, Nat.reduceBEq, Nat.reduceBNe, Nat.reducePow, Int.reduceToNat, Int.reduceLE, Int.reduceLT, Int.reduceMul, Int.reduceEq, Int.reducePow, Int.reduceAdd, Int.reduceSub, Int.reduceNeg, reduceCtorEq]; exact rfl) ?_
    refine dw (ih (f, _, r2) ⟨hgo, by simp only; omega, by simp only; omega⟩ (by simp only; omega)) ?_
    rfl
  · rw [if_neg hc] at hgo
    have hne : (r1.next == [124, 124]) = false := by simpa using hc
    rw [← hgo]
    generalize r1.next = x at *
    repeat' (first | (with_reducible refine hY _ ?_; clear hY Y) | ((with_reducible first | refine av rfl (aD fun K' hK' => ab ?_) | refine hK' _ (ac fun Y hY => ab ?_) | refine ac fun Y hY => ab ?_ | refine ae tk0 cc (ac fun Y hY => ab ?_) | refine ab ?_ | refine ap ?_); (try clear hK' K'); (try dsimp only [aop]); try simp only [go_sem, ↓reduceIte, Nat.reduceEqDiff, Nat.reduceLT, Nat.reduceLeDiff, Nat.reduceAdd, Nat.reduceSub, Nat.reduceMul, Nat.reduceBEq, Nat.reduceBNe, Nat.reducePow, Int.reduceToNat, Int.reduceLE, Int.reduceLT, Int.reduceMul, Int.reduceEq, Int.reducePow, Int.reduceAdd, Int.reduceSub, Int.reduceNeg, reduceCtorEq, cc, Tryz.results68, hne]) | (with_reducible first | refine ai ?_ | refine al ?_ | refine am ?_ | refine aL fun K hK => ?_ | refine ar ?_ | refine bN ?_ | refine bo ?_ | refine az ?_ | refine bq ?_) | (with_reducible refine hK _ ?_; clear hK K) | ((with_reducible refine ah ?_ ?_); (· decide)) | (with_reducible refine aa (h3) ?_) | (with_reducible refine be (aU _) ?_))
    all_goals first | rfl | exact ⟨rfl, rfl⟩
def aN : Nat → List Nat
  | 0 => [0]
  | 1 => [0, 2]
  | 2 => [0, 2, 9]
  | 3 => [0, 2]
  | 4 => [0, 2]
  | 5 => [0, 2, 3]
  | 6 => [2, 3]
  | 7 => [0, 2, 9]
  | 8 => [0, 2]
  | 9 => [0, 2]
  | 10 => [0, 2, 4]
  | 11 => [2, 4]
  | 12 => [0, 2, 9]
  | 13 => [0, 2]
  | 14 => [2]
  | 15 => [0, 2, 9]
  | 16 => [0, 2]
  | 17 => [2]
  | 18 => [0, 2]
  | 19 => [0, 2, 5]
  | 20 => [0, 2, 5, 6]
  | 21 => [0, 2, 5, 6, 58]
  | 22 => [0, 2, 5]
  | 23 => [0, 2, 5, 6, 58]
  | 24 => [0, 2, 5]
  | 25 => [0, 2, 5, 6, 58]
  | 26 => [0, 2, 5]
  | 27 => [0, 2, 5, 6, 58]
  | 28 => [0, 2, 5]
  | 29 => [0, 2, 5, 6]
  | 30 => [0, 2, 5, 6]
  | 31 => [0, 2, 5, 6]
  | 32 => [0, 2, 5, 6]
  | 33 => [2, 5, 6, 7]
  | _ => []
set_option maxRecDepth 100000 in
set_option maxHeartbeats 8000000 in
theorem yE {B : Nat} {g : RS → Co × RS} (hg : RcK 101 B g) (hmu : ∀ r, (g r).2.mu ≤ r.mu) : RcK 101 (B + 1) (kH g) := by
  intro r hs
  unfold kH
  have h1 := eB r
  have hbw := dt r
  by_cases hc : r.next = [33]
  · rw [if_pos hc]
    have hm := gi (by simp) hc
    have h2 := gM r [33] (by simp)
    have h3 := hg (r.begin [33]) (by omega)
    simp only
    generalize r.begin [33] = r1 at *
    generalize g r1 = q at *
    obtain ⟨⟨k0, e0, ks0⟩, r2⟩ := q
    simp only [coA] at h3 ⊢
    have xx0 : (r.next == [33]) = true := by rw [hc]; rfl
    generalize r.next = x at *
    refine aK [] Tryz.func101 rfl Tryz.ntmps101 (Nat.le_of_ble_eq_true rfl) (Nat.le_of_ble_eq_true rfl) fun w0 G0 B0 Pr hB0 => ?_
    simp only [aQ, aI, List.cons_append, List.nil_append]
    repeat' (first | (with_reducible refine hY _ ?_; clear hY Y) | ((with_reducible first | refine av rfl (aD fun K' hK' => ab ?_) | refine hK' _ (ac fun Y hY => ab ?_) | refine ac fun Y hY => ab ?_ | refine ae tk0 aN (ac fun Y hY => ab ?_) | refine ab ?_ | refine ap ?_); (try clear hK' K'); (try dsimp only [aop]); try simp only [go_sem, ↓reduceIte, Nat.reduceEqDiff, Nat.reduceLT, Nat.reduceLeDiff, Nat.reduceAdd, Nat.reduceSub, Nat.reduceMul, Nat.reduceBEq, Nat.reduceBNe, Nat.reducePow, Int.reduceToNat, Int.reduceLE, Int.reduceLT, Int.reduceMul, Int.reduceEq, Int.reducePow, Int.reduceAdd, Int.reduceSub, Int.reduceNeg, reduceCtorEq, aN, Tryz.results101, hbw, xx0]) | (with_reducible first | refine ai ?_ | refine al ?_ | refine am ?_ | refine aL fun K hK => ?_ | refine ax ?_ | refine bg ?_ | refine bL ?_ | refine aq ?_ | refine az ?_) | (with_reducible refine hK _ ?_; clear hK K) | ((with_reducible refine ah ?_ ?_); (· decide)) | (with_reducible refine aa (h1) ?_) | (with_reducible refine aa (h2) ?_) | (with_reducible refine aa (h3) ?_) | (with_reducible refine be (aU _) ?_))
    all_goals first | rfl | exact ⟨rfl, rfl⟩
  rw [if_neg hc]
  have xx0 : (r.next == [33]) = false := by simpa using hc
  clear hc
  by_cases hc : r.next = [91]
  · rw [if_pos hc]
    have hm := gi (by simp) hc
    have h2 := gM r [91] (by simp)
    have h3 := to hg hmu (r.begin [91]) (by omega)
    simp only
    generalize r.begin [91] = r1 at *
    generalize gX g r1 = q at *
    obtain ⟨⟨k0, e0, ks0⟩, r2⟩ := q
    have h4 := fO r2 [93] (by simp)
    simp only [coA] at h3 h4 ⊢
    generalize r2.finish [93] = r3 at *
    have xx1 : (r.next == [91]) = true := by rw [hc]; rfl
    generalize r.next = x at *
    refine aK [] Tryz.func101 rfl Tryz.ntmps101 (Nat.le_of_ble_eq_true rfl) (Nat.le_of_ble_eq_true rfl) fun w0 G0 B0 Pr hB0 => ?_
    simp only [aQ, aI, List.cons_append, List.nil_append]
    repeat' (first | (with_reducible refine hY _ ?_; clear hY Y) | ((with_reducible first | refine av rfl (aD fun K' hK' => ab ?_) | refine hK' _ (ac fun Y hY => ab ?_) | refine ac fun Y hY => ab ?_ | refine ae tk0 aN (ac fun Y hY => ab ?_) | refine ab ?_ | refine ap ?_); (try clear hK' K'); (try dsimp only [aop]); try simp only [go_sem, ↓reduceIte, Nat.reduceEqDiff, Nat.reduceLT, Nat.reduceLeDiff, Nat.reduceAdd, Nat.reduceSub, Nat.reduceMul, Nat.reduceBEq, Nat.reduceBNe, Nat.reducePow, Int.reduceToNat, Int.reduceLE, Int.reduceLT, Int.reduceMul, Int.reduceEq, Int.reducePow, Int.reduceAdd, Int.reduceSub, Int.reduceNeg, reduceCtorEq, aN, Tryz.results101, hbw, xx0, xx1]) | (with_reducible first | refine ai ?_ | refine al ?_ | refine am ?_ | refine aL fun K hK => ?_ | refine ax ?_ | refine ar ?_ | refine bg ?_ | refine bL ?_ | refine aq ?_ | refine az ?_) | (with_reducible refine hK _ ?_; clear hK K) | ((with_reducible refine ah ?_ ?_); (· decide)) | (with_reducible refine aa (h1) ?_) | (with_reducible refine aa (h2) ?_) | (with_reducible refine aa (h3) ?_) | (with_reducible refine aa (h4) ?_) | (with_reducible refine be (aU _) ?_))
    all_goals first | rfl | exact ⟨rfl, rfl⟩
  rw [if_neg hc]
  have xx1 : (r.next == [91]) = false := by simpa using hc
  clear hc
  by_cases hc : r.next = [116, 114, 117, 101]
  · rw [if_pos hc]
    obtain ⟨_, t, ht, _⟩ := cA (by simp) hc
    simp only [cU ht]
    have xx2 : (r.next == [116, 114, 117, 101]) = true := by rw [hc]; rfl
    generalize r.next = x at *
    refine aK [] Tryz.func101 rfl Tryz.ntmps101 (Nat.le_of_ble_eq_true rfl) (Nat.le_of_ble_eq_true rfl) fun w0 G0 B0 Pr hB0 => ?_
    simp only [aQ, aI, List.cons_append, List.nil_append]
    repeat' (first | (with_reducible refine hY _ ?_; clear hY Y) | ((with_reducible first | refine av rfl (aD fun K' hK' => ab ?_) | refine hK' _ (ac fun Y hY => ab ?_) | refine ac fun Y hY => ab ?_ | refine ae tk0 aN (ac fun Y hY => ab ?_) | refine ab ?_ | refine ap ?_); (try clear hK' K'); (try dsimp only [aop]); try simp only [go_sem, ↓reduceIte, Nat.reduceEqDiff, Nat.reduceLT, Nat.reduceLeDiff, Nat.reduceAdd, Nat.reduceSub, Nat.reduceMul, Nat.reduceBEq, Nat.reduceBNe, Nat.reducePow, Int.reduceToNat, Int.reduceLE, Int.reduceLT, Int.reduceMul, Int.reduceEq, Int.reducePow, Int.reduceAdd, Int.reduceSub, Int.reduceNeg, reduceCtorEq, aN, Tryz.results101, hbw, xx0, xx1, xx2]) | (with_reducible first | refine ai ?_ | refine al ?_ | refine am ?_ | refine aL fun K hK => ?_ | refine ax ?_ | refine ar ?_ | refine bg ?_ | refine bL ?_ | refine aq ?_ | refine az ?_) | (with_reducible refine hK _ ?_; clear hK K) | ((with_reducible refine ah ?_ ?_); (· decide)) | (with_reducible refine aa (h1) ?_) | (with_reducible refine be (aU _) ?_))
    all_goals first | rfl | exact ⟨rfl, rfl⟩
  rw [if_neg hc]
  have xx2 : (r.next == [116, 114, 117, 101]) = false := by simpa using hc
  clear hc
  by_cases hc : r.next = [102, 97, 108, 115, 101]
  · rw [if_pos hc]
    obtain ⟨_, t, ht, _⟩ := cA (by simp) hc
    simp only [cU ht]
    have xx3 : (r.next == [102, 97, 108, 115, 101]) = true := by rw [hc]; rfl
    generalize r.next = x at *
    refine aK [] Tryz.func101 rfl Tryz.ntmps101 (Nat.le_of_ble_eq_true rfl) (Nat.le_of_ble_eq_true rfl) fun w0 G0 B0 Pr hB0 => ?_
    simp only [aQ, aI, List.cons_append, List.nil_append]
    repeat' (first | (with_reducible refine hY _ ?_; clear hY Y) | ((with_reducible first | refine av rfl (aD fun K' hK' => ab ?_) | refine hK' _ (ac fun Y hY => ab ?_) | refine ac fun Y hY => ab ?_ | refine ae tk0 aN (ac fun Y hY => ab ?_) | refine ab ?_ | refine ap ?_); (try clear hK' K'); (try dsimp only [aop]); try simp only [go_sem, ↓reduceIte, Nat.reduceEqDiff, Nat.reduceLT, Nat.reduceLeDiff, Nat.reduceAdd, Nat.reduceSub, Nat.reduceMul, Nat.reduceBEq, Nat.reduceBNe, Nat.reducePow, Int.reduceToNat, Int.reduceLE, Int.reduceLT, Int.reduceMul, Int.reduceEq, Int.reducePow, Int.reduceAdd, Int.reduceSub, Int.reduceNeg, reduceCtorEq, aN, Tryz.results101, hbw, xx0, xx1, xx2, xx3]) | (with_reducible first | refine ai ?_ | refine al ?_ | refine am ?_ | refine aL fun K hK => ?_ | refine ax ?_ | refine ar ?_ | refine bg ?_ | refine bL ?_ | refine aq ?_ | refine az ?_) | (with_reducible refine hK _ ?_; clear hK K) | ((with_reducible refine ah ?_ ?_); (· decide)) | (with_reducible refine aa (h1) ?_) | (with_reducible refine be (aU _) ?_))
    all_goals first | rfl | exact ⟨rfl, rfl⟩
  rw [if_neg hc]
  have xx3 : (r.next == [102, 97, 108, 115, 101]) = false := by simpa using hc
  clear hc
  clear hbw
  have h5 := dX r
  generalize r.next = x at *
  simp only
  generalize cy r = q at *
  obtain ⟨⟨k0, n0, x0, ks0⟩, r2⟩ := q
  simp only [exA] at h5 ⊢
  have h6 := eB r2
  have hbw := dt r2
  unfold RS.cmp
  by_cases hc : r2.next = [61, 61]
  · rw [if_pos hc]
    obtain ⟨_, t, ht, _⟩ := cA (by simp) hc
    have hbe := cU ht
    have hq := dX r2.bump
    rw [hbe] at hq
    simp only
    generalize cy r2.bump = q3 at *
    obtain ⟨⟨k3, n3, x3, ks3⟩, r4⟩ := q3
    simp only [exA] at hq ⊢
    clear hbe
    have v0 : (r2.next == [61, 61]) = true := by rw [hc]; rfl
    clear hc
    generalize r2.next = y at *
    refine aK [] Tryz.func101 rfl Tryz.ntmps101 (Nat.le_of_ble_eq_true rfl) (Nat.le_of_ble_eq_true rfl) fun w0 G0 B0 Pr hB0 => ?_
    simp only [aQ, aI, List.cons_append, List.nil_append]
    repeat' (first | (with_reducible refine hY _ ?_; clear hY Y) | ((with_reducible first | refine av rfl (aD fun K' hK' => ab ?_) | refine hK' _ (ac fun Y hY => ab ?_) | refine ac fun Y hY => ab ?_ | refine ae tk0 aN (ac fun Y hY => ab ?_) | refine ab ?_ | refine ap ?_); (try clear hK' K'); (try dsimp only [aop]); try simp only [go_sem, ↓reduceIte, Nat.reduceEqDiff, Nat.reduceLT, Nat.reduceLeDiff, Nat.reduceAdd, Nat.reduceSub, Nat.reduceMul, Nat.reduceBEq, Nat.reduceBNe, Nat.reducePow, Int.reduceToNat, Int.reduceLE, Int.reduceLT, Int.reduceMul, Int.reduceEq, Int.reducePow, Int.reduceAdd, Int.reduceSub, Int.reduceNeg, reduceCtorEq, aN, Tryz.results101, hbw, xx0, xx1, xx2, xx3, v0]) | (with_reducible first | refine ai ?_ | refine al ?_ | refine am ?_ | refine aL fun K hK => ?_ | refine ax ?_ | refine ar ?_ | refine aO ?_ | refine aq ?_ | refine aC ?_ | refine az ?_) | (with_reducible refine hK _ ?_; clear hK K) | ((with_reducible refine ah ?_ ?_); (· decide)) | (with_reducible refine aa (h1) ?_) | (with_reducible refine aa (h5) ?_) | (with_reducible refine aa (h6) ?_) | (with_reducible refine aa (hq) ?_) | (with_reducible refine be (aU _) ?_))
    all_goals first | rfl | exact ⟨rfl, rfl⟩
  rw [if_neg hc]
  have v0 : (r2.next == [61, 61]) = false := by simpa using hc
  clear hc
  by_cases hc : r2.next = [33, 61]
  · rw [if_pos hc]
    obtain ⟨_, t, ht, _⟩ := cA (by simp) hc
    have hbe := cU ht
    have hq := dX r2.bump
    rw [hbe] at hq
    simp only
    generalize cy r2.bump = q3 at *
    obtain ⟨⟨k3, n3, x3, ks3⟩, r4⟩ := q3
    simp only [exA] at hq ⊢
    clear hbe
    have v1 : (r2.next == [33, 61]) = true := by rw [hc]; rfl
    clear hc
    generalize r2.next = y at *
    refine aK [] Tryz.func101 rfl Tryz.ntmps101 (Nat.le_of_ble_eq_true rfl) (Nat.le_of_ble_eq_true rfl) fun w0 G0 B0 Pr hB0 => ?_
    simp only [aQ, aI, List.cons_append, List.nil_append]
    repeat' (first | (with_reducible refine hY _ ?_; clear hY Y) | ((with_reducible first | refine av rfl (aD fun K' hK' => ab ?_) | refine hK' _ (ac fun Y hY => ab ?_) | refine ac fun Y hY => ab ?_ | refine ae tk0 aN (ac fun Y hY => ab ?_) | refine ab ?_ | refine ap ?_); (try clear hK' K'); (try dsimp only [aop]); try simp only [go_sem, ↓reduceIte, Nat.reduceEqDiff, Nat.reduceLT, Nat.reduceLeDiff, Nat.reduceAdd, Nat.reduceSub, Nat.reduceMul, Nat.reduceBEq, Nat.reduceBNe, Nat.reducePow, Int.reduceToNat, Int.reduceLE, Int.reduceLT, Int.reduceMul, Int.reduceEq, Int.reducePow, Int.reduceAdd, Int.reduceSub, Int.reduceNeg, reduceCtorEq, aN, Tryz.results101, hbw, xx0, xx1, xx2, xx3, v0, v1]) | (with_reducible first | refine ai ?_ | refine al ?_ | refine am ?_ | refine aL fun K hK => ?_ | refine ax ?_ | refine ar ?_ | refine aO ?_ | refine aq ?_ | refine aC ?_ | refine az ?_) | (with_reducible refine hK _ ?_; clear hK K) | ((with_reducible refine ah ?_ ?_); (· decide)) | (with_reducible refine aa (h1) ?_) | (with_reducible refine aa (h5) ?_) | (with_reducible refine aa (h6) ?_) | (with_reducible refine aa (hq) ?_) | (with_reducible refine be (aU _) ?_))
    all_goals first | rfl | exact ⟨rfl, rfl⟩
  rw [if_neg hc]
  have v1 : (r2.next == [33, 61]) = false := by simpa using hc
  clear hc
  by_cases hc : r2.next = [60]
  · rw [if_pos hc]
    obtain ⟨_, t, ht, _⟩ := cA (by simp) hc
    have hbe := cU ht
    have hq := dX r2.bump
    rw [hbe] at hq
    simp only
    generalize cy r2.bump = q3 at *
    obtain ⟨⟨k3, n3, x3, ks3⟩, r4⟩ := q3
    simp only [exA] at hq ⊢
    clear hbe
    have v2 : (r2.next == [60]) = true := by rw [hc]; rfl
    clear hc
    generalize r2.next = y at *
    refine aK [] Tryz.func101 rfl Tryz.ntmps101 (Nat.le_of_ble_eq_true rfl) (Nat.le_of_ble_eq_true rfl) fun w0 G0 B0 Pr hB0 => ?_
    simp only [aQ, aI, List.cons_append, List.nil_append]
    repeat' (first | (with_reducible refine hY _ ?_; clear hY Y) | ((with_reducible first | refine av rfl (aD fun K' hK' => ab ?_) | refine hK' _ (ac fun Y hY => ab ?_) | refine ac fun Y hY => ab ?_ | refine ae tk0 aN (ac fun Y hY => ab ?_) | refine ab ?_ | refine ap ?_); (try clear hK' K'); (try dsimp only [aop]); try simp only [go_sem, ↓reduceIte, Nat.reduceEqDiff, Nat.reduceLT, Nat.reduceLeDiff, Nat.reduceAdd, Nat.reduceSub, Nat.reduceMul, Nat.reduceBEq, Nat.reduceBNe, Nat.reducePow, Int.reduceToNat, Int.reduceLE, Int.reduceLT, Int.reduceMul, Int.reduceEq, Int.reducePow, Int.reduceAdd, Int.reduceSub, Int.reduceNeg, reduceCtorEq, aN, Tryz.results101, hbw, xx0, xx1, xx2, xx3, v0, v1, v2]) | (with_reducible first | refine ai ?_ | refine al ?_ | refine am ?_ | refine aL fun K hK => ?_ | refine ax ?_ | refine ar ?_ | refine aO ?_ | refine aq ?_ | refine aC ?_ | refine az ?_) | (with_reducible refine hK _ ?_; clear hK K) | ((with_reducible refine ah ?_ ?_); (· decide)) | (with_reducible refine aa (h1) ?_) | (with_reducible refine aa (h5) ?_) | (with_reducible refine aa (h6) ?_) | (with_reducible refine aa (hq) ?_) | (with_reducible refine be (aU _) ?_))
    all_goals first | rfl | exact ⟨rfl, rfl⟩
  rw [if_neg hc]
  have v2 : (r2.next == [60]) = false := by simpa using hc
  clear hc
  by_cases hc : r2.next = [60, 61]
  · rw [if_pos hc]
    obtain ⟨_, t, ht, _⟩ := cA (by simp) hc
    have hbe := cU ht
    have hq := dX r2.bump
    rw [hbe] at hq
    simp only
    generalize cy r2.bump = q3 at *
    obtain ⟨⟨k3, n3, x3, ks3⟩, r4⟩ := q3
    simp only [exA] at hq ⊢
    clear hbe
    have v3 : (r2.next == [60, 61]) = true := by rw [hc]; rfl
    clear hc
    generalize r2.next = y at *
    refine aK [] Tryz.func101 rfl Tryz.ntmps101 (Nat.le_of_ble_eq_true rfl) (Nat.le_of_ble_eq_true rfl) fun w0 G0 B0 Pr hB0 => ?_
    simp only [aQ, aI, List.cons_append, List.nil_append]
    repeat' (first | (with_reducible refine hY _ ?_; clear hY Y) | ((with_reducible first | refine av rfl (aD fun K' hK' => ab ?_) | refine hK' _ (ac fun Y hY => ab ?_) | refine ac fun Y hY => ab ?_ | refine ae tk0 aN (ac fun Y hY => ab ?_) | refine ab ?_ | refine ap ?_); (try clear hK' K'); (try dsimp only [aop]); try simp only [go_sem, ↓reduceIte, Nat.reduceEqDiff, Nat.reduceLT, Nat.reduceLeDiff, Nat.reduceAdd, Nat.reduceSub, Nat.reduceMul, Nat.reduceBEq, Nat.reduceBNe, Nat.reducePow, Int.reduceToNat, Int.reduceLE, Int.reduceLT, Int.reduceMul, Int.reduceEq, Int.reducePow, Int.reduceAdd, Int.reduceSub, Int.reduceNeg, reduceCtorEq, aN, Tryz.results101, hbw, xx0, xx1, xx2, xx3, v0, v1, v2, v3]) | (with_reducible first | refine ai ?_ | refine al ?_ | refine am ?_ | refine aL fun K hK => ?_ | refine ax ?_ | refine ar ?_ | refine aO ?_ | refine aq ?_ | refine aC ?_ | refine az ?_) | (with_reducible refine hK _ ?_; clear hK K) | ((with_reducible refine ah ?_ ?_); (· decide)) | (with_reducible refine aa (h1) ?_) | (with_reducible refine aa (h5) ?_) | (with_reducible refine aa (h6) ?_) | (with_reducible refine aa (hq) ?_) | (with_reducible refine be (aU _) ?_))
    all_goals first | rfl | exact ⟨rfl, rfl⟩
  rw [if_neg hc]
  have v3 : (r2.next == [60, 61]) = false := by simpa using hc
  clear hc
  have h7 := iw r2 11
  generalize r2.next = y at *
  simp only
  generalize r2.amiss 11 = r3 at *
  have hq := dX r3
  generalize cy r3 = q3 at *
  obtain ⟨⟨k3, n3, x3, ks3⟩, r4⟩ := q3
  simp only [exA] at hq ⊢
  refine aK [] Tryz.func101 rfl Tryz.ntmps101 (Nat.le_of_ble_eq_true rfl) (Nat.le_of_ble_eq_true rfl) fun w0 G0 B0 Pr hB0 => ?_
  simp only [aQ, aI, List.cons_append, List.nil_append]
  repeat' (first | (with_reducible refine hY _ ?_; clear hY Y) | ((with_reducible first | refine av rfl (aD fun K' hK' => ab ?_) | refine hK' _ (ac fun Y hY => ab ?_) | refine ac fun Y hY => ab ?_ | refine ae tk0 aN (ac fun Y hY => ab ?_) | refine ab ?_ | refine ap ?_); (try clear hK' K'); (try dsimp only [aop]); try simp only [go_sem, ↓reduceIte, Nat.reduceEqDiff, Nat.reduceLT, Nat.reduceLeDiff, Nat.reduceAdd, Nat.reduceSub, Nat.reduceMul, Nat.reduceBEq, Nat.reduceBNe, Nat.reducePow, Int.reduceToNat, Int.reduceLE, Int.reduceLT, Int.reduceMul, Int.reduceEq, Int.reducePow, Int.reduceAdd, Int.reduceSub, Int.reduceNeg, reduceCtorEq, aN, Tryz.results101, xx0, xx1, xx2, xx3, v0, v1, v2, v3]) | (with_reducible first | refine ai ?_ | refine al ?_ | refine am ?_ | refine aL fun K hK => ?_ | refine ax ?_ | refine ar ?_ | refine aO ?_ | refine aq ?_ | refine aC ?_ | refine az ?_) | (with_reducible refine hK _ ?_; clear hK K) | ((with_reducible refine ah ?_ ?_); (· decide)) | (with_reducible refine aa (h1) ?_) | (with_reducible refine aa (h5) ?_) | (with_reducible refine aa (h6) ?_) | (with_reducible refine aa (h7) ?_) | (with_reducible refine aa (hq) ?_) | (with_reducible refine be (aU _) ?_))
  all_goals first | rfl | exact ⟨rfl, rfl⟩
theorem u9 : ∀ f, RcK 101 f (oa f)
  | 0 => fun s hs => absurd hs (Nat.not_lt_zero _)
  | f + 1 => yE (u9 f) (kT f)
theorem kA (r : RS) : AFn Tryz.prog 68 [.loc 20000 0] [rA r] (.agg (coA (ei r).1)) [rA (ei r).2] :=
  to (u9 FU) (kT FU) r (fS r)
end Go.Proofs.YtpkcgdikbjaoaaaGreatDoor
