/- The parser in K: places, assertions. -/
import Derived.Test.YtpkcgdikbjaoaaaDoorZ17
import Derived.Test.YtpkcgdikbjaoaaaDoorZ12
namespace Go.Proofs.YtpkcgdikbjaoaaaDoor
set_option linter.unusedSimpArgs false
set_option linter.unusedVariables false
open Go.RowKit
theorem bS (s : PS) (w : Wd) : AFn Tryd.prog 24 [.loc 20000 0, .sl [bs w] 1 .full] [pA s] (.tup []) [pA (s.due [w])] := ka s [w] .full (by simp)
def b5 : Nat → List Nat
  | 0 => [0]
  | 1 => [0, 2]
  | 2 => [0, 2, 4]
  | 3 => [0, 2, 4]
  | _ => []
set_option maxRecDepth 100000 in
set_option maxHeartbeats 4000000 in
theorem iR (s : PS) : AFn Tryd.prog 59 [.loc 20000 0] [pA s] (.tup [.agg (exA s.place.1), bs s.place.2.1]) [pA s.place.2.2] := by
  unfold PS.place
  simp only
  have h1 := dx s
  generalize cb s = q at *
  obtain ⟨⟨k0, n0, x0, ks0⟩, s0⟩ := q
  have h2 := bS s0 [46]
  have h3 := eZ (s0.due [[46]])
  generalize s0.due [[46]] = s1 at *
  generalize s1.word 1 = q1 at *
  simp only [exA] at h1 ⊢
  refine aM [] Tryd.func59 rfl Tryd.ntmps59 (Nat.le_of_ble_eq_true rfl) (Nat.le_of_ble_eq_true rfl) fun w0 G0 B0 Pr hB0 => ?_
  simp only [aS, aJ, List.cons_append, List.nil_append]
  repeat' (first | (with_reducible refine hY _ ?_; clear hY Y) | ((with_reducible first | refine aD rfl (aN fun K' hK' => ab ?_) | refine hK' _ (ac fun Y hY => ab ?_) | refine ac fun Y hY => ab ?_ | refine ae tk0 b5 (ac fun Y hY => ab ?_) | refine ab ?_ | refine av ?_ | refine dg rfl (dp fun K' hK' => ab ?_) | refine hK' _ _ (ac fun Y hY => ab ?_)); (try clear hK' K'); (try dsimp only [aop]); try simp only [go_sem, ↓reduceIte, Nat.reduceEqDiff, Nat.reduceLT, Nat.reduceLeDiff, Nat.reduceAdd, Nat.reduceSub, Nat.reduceMul, Nat.reduceBEq, Nat.reduceBNe, Nat.reducePow, Int.reduceToNat, Int.reduceLE, Int.reduceLT, Int.reduceMul, Int.reduceEq, Int.reducePow, Int.reduceAdd, Int.reduceSub, Int.reduceNeg, reduceCtorEq, b5, Tryd.results59]) | (with_reducible first | refine aj ?_ | refine ar ?_ | refine au ?_ | refine aT fun K hK => ?_ | refine aF ?_ | refine cn ?_ | refine gT fun K hK => ?_) | (with_reducible refine hK _ ?_; clear hK K) | (with_reducible refine hK _ _ ?_ ?_; (· kernel_rfl); clear hK K) | (with_reducible refine cj tk0 b5 ?_ ?_; (· kernel_rfl)) | (with_reducible refine aa (h1) ?_) | (with_reducible refine aa (h2) ?_) | (with_reducible refine aa (h3) ?_))
  all_goals first | rfl | exact ⟨rfl, rfl⟩
def AsK (f : FuncId) (B : Nat) (g : PS → As × PS) : Prop := ∀ s : PS, s.mu < B → AFn Tryd.prog f [.loc 20000 0] [pA s] (.agg (asA (g s).1)) [pA (g s).2]
def bp : Nat → List Nat
  | 0 => [0]
  | 1 => [0, 2]
  | 2 => [0, 2, 3]
  | 3 => [0, 2, 3]
  | 4 => [0, 2, 3, 4]
  | 5 => [2, 3]
  | _ => []
set_option maxRecDepth 100000 in
set_option maxHeartbeats 8000000 in
theorem pj {B : Nat} {g : PS → As × PS} (hg : AsK 45 B g) (hmu : ∀ s, (g s).2.mu ≤ s.mu) : AsK 27 B (fK g) := by
  intro s hs
  obtain ⟨R, hR⟩ : ∃ R, R = fK g s := ⟨_, rfl⟩
  rw [← hR]
  unfold fK at hR
  have h1 := hg s hs
  have hm0 := dR (g s).2
  have hm1 := hmu s
  generalize g s = q at *
  obtain ⟨⟨k0, ⟨ck0, ce0, cks0⟩, ⟨ek0, en0, ex0, eks0⟩, ⟨vk0, vn0, vx0, vks0⟩, f0, n0, ks0⟩, s0⟩ := q
  simp only [asA, coA, exA, List.cons_append, List.nil_append] at h1
  refine aM [] Tryd.func27 rfl Tryd.ntmps27 (Nat.le_of_ble_eq_true rfl) (Nat.le_of_ble_eq_true rfl) fun w0 G0 B0 Pr hB0 => ?_
  simp only [aS, aJ, List.cons_append, List.nil_append]
  repeat' (first | (with_reducible refine hY _ ?_; clear hY Y) | ((with_reducible first | refine aD rfl (aN fun K' hK' => ab ?_) | refine hK' _ (ac fun Y hY => ab ?_) | refine ae tk0 bp (ac fun Y hY => ab ?_) | refine ab ?_); (try clear hK' K'); (try dsimp only [aop]); try simp only [go_sem, ↓reduceIte, Nat.reduceEqDiff, Nat.reduceLT, Nat.reduceLeDiff, Nat.reduceAdd, Nat.reduceSub, Nat.reduceMul, Nat.reduceBEq, Nat.reduceBNe, Nat.reducePow, Int.reduceToNat, Int.reduceLE, Int.reduceLT, Int.reduceMul, Int.reduceEq, Int.reducePow, Int.reduceAdd, Int.reduceSub, Int.reduceNeg, reduceCtorEq, bp, Tryd.results27]) | (with_reducible first | refine aj ?_ | refine ar ?_ | refine au ?_ | refine aT fun K hK => ?_ | refine ax ?_ | refine bZ ?_) | (with_reducible refine hK _ ?_; clear hK K) | (with_reducible refine aa (h1) ?_))
  refine b7 (α := Nat × As × PS) (fun p => [(0, .loc 20000 0), (2, .loc 10002 0), (3, .loc 10003 0), (10002, .bc (asA asZ) 46), (10003, .bc (asA p.2.1) 46), (20000, pA p.2.2)])
    (fun p => dE [38] (fun a b => .mk 4 coZ exZ exZ [] 0 [a, b]) g p.1 p.2.1 p.2.2 = R ∧ p.2.2.mu < p.1 ∧ p.2.2.mu < B) (fun p => p.1) (FU, .mk k0 (.mk ck0 ce0 cks0) (.mk ek0 en0 ex0 eks0) (.mk vk0 vn0 vx0 vks0) f0 n0 ks0, s0) [0, 2, 3] ?_ ⟨hR.symm, hm0, Nat.lt_of_le_of_lt hm1 hs⟩ ?_
  · simp only [go_sem, ↓reduceIte, Nat.reduceEqDiff, Nat.reduceLT, Nat.reduceLeDiff, Nat.reduceAdd, Nat.reduceSub, Nat.reduceMul, Nat.reduceBEq, Nat.reduceBNe, Nat.reducePow, Int.reduceToNat, Int.reduceLE, Int.reduceLT, Int.reduceMul, Int.reduceEq, Int.reducePow, Int.reduceAdd, Int.reduceSub, Int.reduceNeg, reduceCtorEq] <;> rfl
  rintro ⟨f, ⟨k1, ⟨ck1, ce1, cks1⟩, ⟨ek1, en1, ex1, eks1⟩, ⟨vk1, vn1, vx1, vks1⟩, f1, n1, ks1⟩, s1⟩ ⟨hgo, hmf, hmB⟩ ih
  simp only [asA, coA, exA, asZ, coZ, exZ, gK, eG, b4, List.cons_append, List.nil_append] at ih hgo hmf hmB ⊢
  obtain ⟨f, rfl⟩ : ∃ f', f = f' + 1 := ⟨f - 1, by omega⟩
  rw [dE] at hgo
  cases hc : s1.is [38]
  case true =>
    have h3 := b0 hc
    have hm2 := bB hc
    have hm3 := hmu s1.drop
    have h4 := hg s1.drop (by omega)
    rw [if_pos hc] at hgo
    generalize g s1.drop = q2 at *
    obtain ⟨⟨k2, ⟨ck2, ce2, cks2⟩, ⟨ek2, en2, ex2, eks2⟩, ⟨vk2, vn2, vx2, vks2⟩, f2, n2, ks2⟩, s2⟩ := q2
    simp only [asA, coA, exA, List.cons_append, List.nil_append] at h4 hgo hm3
    repeat' (first | (with_reducible refine hY _ ?_; clear hY Y) | ((with_reducible first | refine aD rfl (aN fun K' hK' => ab ?_) | refine hK' _ (ac fun Y hY => ab ?_) | refine ac fun Y hY => ab ?_ | refine ae tk0 bp (ac fun Y hY => ab ?_) | refine ab ?_); (try clear hK' K'); (try dsimp only [aop]); try simp only [go_sem, ↓reduceIte, Nat.reduceEqDiff, Nat.reduceLT, Nat.reduceLeDiff, Nat.reduceAdd, Nat.reduceSub, Nat.reduceMul, Nat.reduceBEq, Nat.reduceBNe, Nat.reducePow, Int.reduceToNat, Int.reduceLE, Int.reduceLT, Int.reduceMul, Int.reduceEq, Int.reducePow, Int.reduceAdd, Int.reduceSub, Int.reduceNeg, reduceCtorEq, bp, Tryd.results27]) | (with_reducible first | refine aj ?_ | refine ar ?_ | refine au ?_ | refine aT fun K hK => ?_ | refine aK ?_ | refine a8 ?_ | refine ax ?_ | refine aP ?_) | (with_reducible refine hK _ ?_; clear hK K) | ((with_reducible refine al ?_ ?_); (· decide)) | (with_reducible refine aa (h3) ?_) | (with_reducible refine aa (h4) ?_))
    refine bI [0, 2, 3] (by simp only [go_sem, ↓reduceIte, Nat.reduceEqDiff, Nat.reduceLT, Nat.reduceLeDiff, Nat.reduceAdd, Nat.reduceSub, Nat.reduceMul, Nat.reduceBEq, Nat.reduceBNe, Nat.reducePow, Int.reduceToNat, Int.reduceLE, Int.reduceLT, Int.reduceMul, Int.reduceEq, Int.reducePow, Int.reduceAdd, Int.reduceSub, Int.reduceNeg, reduceCtorEq]; exact rfl) ?_
    refine et (ih (f, _, s2) ⟨hgo, by simp only; omega, by simp only; omega⟩ (by simp only; omega)) ?_
    rfl
  case false =>
    have h3 := cf hc
    rw [if_neg (by rw [hc]; simp)] at hgo
    rw [← hgo]
    repeat' (first | (with_reducible refine hY _ ?_; clear hY Y) | ((with_reducible first | refine aD rfl (aN fun K' hK' => ab ?_) | refine hK' _ (ac fun Y hY => ab ?_) | refine ac fun Y hY => ab ?_ | refine ae tk0 bp (ac fun Y hY => ab ?_) | refine ab ?_ | refine av ?_); (try clear hK' K'); (try dsimp only [aop]); try simp only [go_sem, ↓reduceIte, Nat.reduceEqDiff, Nat.reduceLT, Nat.reduceLeDiff, Nat.reduceAdd, Nat.reduceSub, Nat.reduceMul, Nat.reduceBEq, Nat.reduceBNe, Nat.reducePow, Int.reduceToNat, Int.reduceLE, Int.reduceLT, Int.reduceMul, Int.reduceEq, Int.reducePow, Int.reduceAdd, Int.reduceSub, Int.reduceNeg, reduceCtorEq, bp, Tryd.results27]) | (with_reducible first | refine aj ?_ | refine ar ?_ | refine au ?_ | refine aT fun K hK => ?_ | refine aC ?_ | refine b3 ?_ | refine bG ?_ | refine aF ?_ | refine bH ?_) | (with_reducible refine hK _ ?_; clear hK K) | ((with_reducible refine al ?_ ?_); (· decide)) | (with_reducible refine aa (h3) ?_))
    all_goals first | rfl | exact ⟨rfl, rfl⟩
def ct : Nat → List Nat
  | 0 => [0, 1, 2]
  | 1 => [0, 1, 2, 6]
  | 2 => [0, 2, 6]
  | 3 => [0, 2, 6, 7]
  | 4 => [0, 6, 7]
  | 5 => [6, 7]
  | _ => []
set_option maxRecDepth 100000 in
set_option maxHeartbeats 4000000 in
theorem i7 {B : Nat} {g : PS → As × PS} (hg : AsK 27 B g) (a b : Wd) (s : PS) (hs : (s.open' a).mu < B) :
    AFn Tryd.prog 63 [.loc 20000 0, bs a, bs b] [pA s] (.agg (asA (cZ g a b s).1)) [pA (cZ g a b s).2] := by
  have h1 := jn s a
  have h2 := hg (s.open' a) hs
  unfold cZ
  simp only
  generalize s.open' a = s1 at *
  generalize g s1 = q at *
  obtain ⟨⟨k0, ⟨ck0, ce0, cks0⟩, ⟨ek0, en0, ex0, eks0⟩, ⟨vk0, vn0, vx0, vks0⟩, f0, n0, ks0⟩, s0⟩ := q
  have h3 := bS s0 b
  have h4 := fd (s0.due [b])
  simp only [asA, coA, exA, List.cons_append, List.nil_append] at h2 ⊢
  generalize s0.due [b] = s5 at *
  refine aM [] Tryd.func63 rfl Tryd.ntmps63 (Nat.le_of_ble_eq_true rfl) (Nat.le_of_ble_eq_true rfl) fun w0 G0 B0 Pr hB0 => ?_
  simp only [aS, aJ, List.cons_append, List.nil_append]
  repeat' (first | (with_reducible refine hY _ ?_; clear hY Y) | ((with_reducible first | refine aD rfl (aN fun K' hK' => ab ?_) | refine hK' _ (ac fun Y hY => ab ?_) | refine ae tk0 ct (ac fun Y hY => ab ?_) | refine ab ?_ | refine av ?_); (try clear hK' K'); (try dsimp only [aop]); try simp only [go_sem, ↓reduceIte, Nat.reduceEqDiff, Nat.reduceLT, Nat.reduceLeDiff, Nat.reduceAdd, Nat.reduceSub, Nat.reduceMul, Nat.reduceBEq, Nat.reduceBNe, Nat.reducePow, Int.reduceToNat, Int.reduceLE, Int.reduceLT, Int.reduceMul, Int.reduceEq, Int.reducePow, Int.reduceAdd, Int.reduceSub, Int.reduceNeg, reduceCtorEq, ct, Tryd.results63]) | (with_reducible first | refine aj ?_ | refine ar ?_ | refine au ?_ | refine aT fun K hK => ?_ | refine aF ?_) | (with_reducible refine hK _ ?_; clear hK K) | (with_reducible refine aa (h1) ?_) | (with_reducible refine aa (h2) ?_) | (with_reducible refine aa (h3) ?_) | (with_reducible refine aa (h4) ?_))
  all_goals first | rfl | exact ⟨rfl, rfl⟩
def aH : Nat → List Nat
  | 0 => [0]
  | 1 => [0, 2]
  | 2 => [0, 2, 3]
  | 3 => [0, 2, 3]
  | 4 => [0, 2, 3]
  | 5 => [0, 2, 3]
  | 6 => [0, 2, 3]
  | 7 => [0, 2, 3]
  | 8 => [0, 2, 3]
  | 9 => [0, 2, 3]
  | 10 => [0, 2, 3]
  | 11 => [0, 2, 3]
  | 12 => [0, 2, 3]
  | 13 => [0, 2, 3]
  | 14 => [0, 2, 3]
  | 15 => [0, 2, 3]
  | 16 => [0, 2, 3]
  | 17 => [0, 2, 3]
  | 18 => [0, 2, 3]
  | 19 => [0, 2, 3]
  | 20 => [0, 2, 3]
  | 21 => [0, 2, 3]
  | 22 => [0, 2, 3, 4]
  | 23 => [0, 2, 3, 4]
  | 24 => [0, 2, 3]
  | 25 => [0, 2]
  | 26 => [2, 3]
  | _ => []
set_option maxRecDepth 100000 in
set_option maxHeartbeats 8000000 in
theorem sE {B : Nat} {g : PS → As × PS} (hg : AsK 45 B g) (hmu : ∀ s, (g s).2.mu ≤ s.mu) : AsK 45 (B + 1) (g6 (fK g)) := by
  intro s hs
  have ha := pj hg hmu
  have hma := jB hmu
  generalize fK g = o at *
  unfold g6
  cases c1 : s.is [101, 109, 112]
  case true =>
    simp only [if_true]
    have h1 := b0 c1
    generalize s.drop = s1 at *
    refine aM [] Tryd.func45 rfl Tryd.ntmps45 (Nat.le_of_ble_eq_true rfl) (Nat.le_of_ble_eq_true rfl) fun w0 G0 B0 Pr hB0 => ?_
    simp only [aS, aJ, List.cons_append, List.nil_append]
    repeat' (first | (with_reducible refine hY _ ?_; clear hY Y) | ((with_reducible first | refine aD rfl (aN fun K' hK' => ab ?_) | refine hK' _ (ac fun Y hY => ab ?_) | refine ac fun Y hY => ab ?_ | refine ae tk0 aH (ac fun Y hY => ab ?_) | refine ab ?_ | refine av ?_); (try clear hK' K'); (try dsimp only [aop]); try simp only [go_sem, ↓reduceIte, Nat.reduceEqDiff, Nat.reduceLT, Nat.reduceLeDiff, Nat.reduceAdd, Nat.reduceSub, Nat.reduceMul, Nat.reduceBEq, Nat.reduceBNe, Nat.reducePow, Int.reduceToNat, Int.reduceLE, Int.reduceLT, Int.reduceMul, Int.reduceEq, Int.reducePow, Int.reduceAdd, Int.reduceSub, Int.reduceNeg, reduceCtorEq, aH, Tryd.results45]) | (with_reducible first | refine aj ?_ | refine ar ?_ | refine au ?_ | refine aT fun K hK => ?_ | refine aK ?_ | refine a8 ?_ | refine ax ?_ | refine aP ?_ | refine aF ?_) | (with_reducible refine hK _ ?_; clear hK K) | ((with_reducible refine al ?_ ?_); (· decide)) | (with_reducible refine aa (h1) ?_))
    all_goals first | rfl | exact ⟨rfl, rfl⟩
  simp only [Bool.false_eq_true, if_false]
  have h1 := cf c1
  cases c2 : s.is [91]
  case true =>
    simp only [if_true]
    have h2 := gq c2
    have h3 := oy s
    generalize dS s = q at *
    obtain ⟨⟨k0, e0, ks0⟩, s0⟩ := q
    simp only [coA] at h3
    refine aM [] Tryd.func45 rfl Tryd.ntmps45 (Nat.le_of_ble_eq_true rfl) (Nat.le_of_ble_eq_true rfl) fun w0 G0 B0 Pr hB0 => ?_
    simp only [aS, aJ, List.cons_append, List.nil_append]
    repeat' (first | (with_reducible refine hY _ ?_; clear hY Y) | ((with_reducible first | refine aD rfl (aN fun K' hK' => ab ?_) | refine hK' _ (ac fun Y hY => ab ?_) | refine ac fun Y hY => ab ?_ | refine ae tk0 aH (ac fun Y hY => ab ?_) | refine ab ?_ | refine av ?_); (try clear hK' K'); (try dsimp only [aop]); try simp only [go_sem, ↓reduceIte, Nat.reduceEqDiff, Nat.reduceLT, Nat.reduceLeDiff, Nat.reduceAdd, Nat.reduceSub, Nat.reduceMul, Nat.reduceBEq, Nat.reduceBNe, Nat.reducePow, Int.reduceToNat, Int.reduceLE, Int.reduceLT, Int.reduceMul, Int.reduceEq, Int.reducePow, Int.reduceAdd, Int.reduceSub, Int.reduceNeg, reduceCtorEq, aH, Tryd.results45]) | (with_reducible first | refine aj ?_ | refine ar ?_ | refine au ?_ | refine aT fun K hK => ?_ | refine aK ?_ | refine aC ?_ | refine a8 ?_ | refine ax ?_ | refine aF ?_) | (with_reducible refine hK _ ?_; clear hK K) | ((with_reducible refine al ?_ ?_); (· decide)) | (with_reducible refine aa (h1) ?_) | (with_reducible refine aa (h2) ?_) | (with_reducible refine aa (h3) ?_))
    all_goals first | rfl | exact ⟨rfl, rfl⟩
  simp only [Bool.false_eq_true, if_false]
  have h2 := gP c2
  cases c3 : (s.is [97, 99, 99] || s.is [112, 116, 115])
  case true =>
    simp only [if_true]
    have hc' : ∃ w, s.is w = true := by
      rcases Bool.or_eq_true _ _ |>.mp c3 with h | h
      · exact ⟨_, h⟩
      · exact ⟨_, h⟩
    obtain ⟨w, hw⟩ := hc'
    have h3 := jD s [97, 99, 99]
    have h4 := jD s [112, 116, 115]
    have hd1 := nX hw
    have hd2 := lZ hw
    have hd3 := nl hw
    have hd4 := gy (f := fL) (k := 3) (fun _ => rfl) s.l
    have h5 := bS s.drop [40]
    rw [nM] at h5
    unfold PS.cell
    simp only
    clear hw hs
    generalize s.drop = s1 at *
    have h6 := iR (s1.due [[40]])
    generalize s1.due [[40]] = s2 at *
    generalize s2.place = q at *
    obtain ⟨⟨ek0, en0, ex0, eks0⟩, f0, s3⟩ := q
    have h7 := bS s3 [44]
    have h8 := jI (s3.due [[44]])
    simp only at h7 h8 ⊢
    generalize s3.due [[44]] = s4 at *
    generalize s4.number = q2 at *
    obtain ⟨n0, s5⟩ := q2
    simp only [exA] at h6 h8 ⊢
    generalize s.is [97, 99, 99] = b1 at *
    generalize s.is [112, 116, 115] = b2 at *
    cases b2
    · have h9 := bS s5 [41]
      simp only [Bool.false_eq_true, if_false]
      generalize s5.due [[41]] = s6 at *
      cases b1
      · cases c3
      · refine aM [] Tryd.func45 rfl Tryd.ntmps45 (Nat.le_of_ble_eq_true rfl) (Nat.le_of_ble_eq_true rfl) fun w0 G0 B0 Pr hB0 => ?_
        simp only [aS, aJ, List.cons_append, List.nil_append]
        repeat' (first | (with_reducible refine hY _ ?_; clear hY Y) | ((with_reducible first | refine aD rfl (aN fun K' hK' => ab ?_) | refine hK' _ (ac fun Y hY => ab ?_) | refine bV rfl (ac fun Y hY => ab ?_) | refine ac fun Y hY => ab ?_ | refine ae tk0 aH (ac fun Y hY => ab ?_) | refine ab ?_ | refine av ?_); (try clear hK' K'); (try dsimp only [aop]); try simp only [go_sem, ↓reduceIte, Nat.reduceEqDiff, Nat.reduceLT, Nat.reduceLeDiff, Nat.reduceAdd, Nat.reduceSub, Nat.reduceMul, Nat.reduceBEq, Nat.reduceBNe, Nat.reducePow, Int.reduceToNat, Int.reduceLE, Int.reduceLT, Int.reduceMul, Int.reduceEq, Int.reducePow, Int.reduceAdd, Int.reduceSub, Int.reduceNeg, reduceCtorEq, aH, Tryd.results45, hd1, hd2, hd3, hd4]) | (with_reducible first | refine aj ?_ | refine bW rfl ?_ | refine fa ?_ ?_ | refine ar ?_ | refine au ?_ | refine aT fun K hK => ?_ | refine aK ?_ | refine aC ?_ | refine a8 ?_ | refine ax ?_ | refine aP ?_ | refine aF ?_) | (with_reducible refine hK _ ?_; clear hK K) | ((with_reducible first | refine bh ?_ ?_ | refine al ?_ ?_); (· decide)) | (with_reducible refine aa (h1) ?_) | (with_reducible refine aa (h2) ?_) | (with_reducible refine aa (h3) ?_) | (with_reducible refine aa (h4) ?_) | (with_reducible refine aa (h5) ?_) | (with_reducible refine aa (h6) ?_) | (with_reducible refine aa (h7) ?_) | (with_reducible refine aa (h8) ?_) | (with_reducible refine aa (h9) ?_))
        all_goals first | rfl | exact ⟨rfl, rfl⟩
    · have h9 := bS s5 [44]
      have h10 := dx (s5.due [[44]])
      simp only [if_true]
      generalize s5.due [[44]] = s6 at *
      generalize cb s6 = q3 at *
      obtain ⟨⟨vk0, vn0, vx0, vks0⟩, s7⟩ := q3
      have h11 := bS s7 [41]
      simp only [exA] at h10 ⊢
      generalize s7.due [[41]] = s8 at *
      cases b1
      all_goals (
        refine aM [] Tryd.func45 rfl Tryd.ntmps45 (Nat.le_of_ble_eq_true rfl) (Nat.le_of_ble_eq_true rfl) fun w0 G0 B0 Pr hB0 => ?_
        simp only [aS, aJ, List.cons_append, List.nil_append]
        repeat' (first | (with_reducible refine hY _ ?_; clear hY Y) | ((with_reducible first | refine aD rfl (aN fun K' hK' => ab ?_) | refine hK' _ (ac fun Y hY => ab ?_) | refine bV rfl (ac fun Y hY => ab ?_) | refine ac fun Y hY => ab ?_ | refine aN fun K' hK' => ab ?_ | refine ae tk0 aH (ac fun Y hY => ab ?_) | refine ab ?_ | refine av ?_); (try clear hK' K'); (try dsimp only [aop]); try simp only [go_sem, ↓reduceIte, Nat.reduceEqDiff, Nat.reduceLT, Nat.reduceLeDiff, Nat.reduceAdd, Nat.reduceSub, Nat.reduceMul, Nat.reduceBEq, Nat.reduceBNe, Nat.reducePow, Int.reduceToNat, Int.reduceLE, Int.reduceLT, Int.reduceMul, Int.reduceEq, Int.reducePow, Int.reduceAdd, Int.reduceSub, Int.reduceNeg, reduceCtorEq, aH, Tryd.results45, hd1, hd2, hd3, hd4]) | (with_reducible first | refine aj ?_ | refine bW rfl ?_ | refine bl ?_ | refine fa ?_ ?_ | refine ar ?_ | refine au ?_ | refine aT fun K hK => ?_ | refine aK ?_ | refine aC ?_ | refine a8 ?_ | refine ax ?_ | refine aF ?_) | (with_reducible refine hK _ ?_; clear hK K) | ((with_reducible first | refine bh ?_ ?_ | refine al ?_ ?_); (· decide)) | (with_reducible refine aa (h1) ?_) | (with_reducible refine aa (h2) ?_) | (with_reducible refine aa (h3) ?_) | (with_reducible refine aa (h4) ?_) | (with_reducible refine aa (h5) ?_) | (with_reducible refine aa (h6) ?_) | (with_reducible refine aa (h7) ?_) | (with_reducible refine aa (h8) ?_) | (with_reducible refine aa (h9) ?_) | (with_reducible refine aa (h10) ?_) | (with_reducible refine aa (h11) ?_))
        all_goals first | rfl | exact ⟨rfl, rfl⟩)
  simp only [Bool.false_eq_true, if_false]
  obtain ⟨c31, c32⟩ := Bool.or_eq_false_iff.1 c3
  have h3 := gP c31
  have h4 := gP c32
  cases c4 : s.is [105, 102]
  case true =>
    simp only [if_true]
    have h5 := b0 c4
    have hm1 := bB c4
    have h6 := ll s.drop
    have hm2 := cV s.drop
    generalize s.drop = s1 at *
    generalize eF s1 = q at *
    obtain ⟨⟨k0, e0, ks0⟩, s2⟩ := q
    simp only at hm2 h6 ⊢
    have hm3 := dH s2 [123]
    have h7 := i7 ha [123] [125] s2 (by omega)
    have hm4 := fk hma [123] [125] s2
    generalize cZ o [123] [125] s2 = q2 at *
    obtain ⟨⟨xk, ⟨xck, xce, xcks⟩, ⟨xek, xen, xex, xeks⟩, ⟨xvk, xvn, xvx, xvks⟩, xf, xn, xks⟩, s3⟩ := q2
    have h8 := bS s3 [101, 108, 115, 101]
    have hm5 := bi [[101, 108, 115, 101]] s3
    simp only at hm4 hm5 h8 ⊢
    generalize s3.due [[101, 108, 115, 101]] = s4 at *
    have hm6 := dH s4 [123]
    have h9 := i7 ha [123] [125] s4 (by omega)
    generalize cZ o [123] [125] s4 = q3 at *
    obtain ⟨⟨yk, ⟨yck, yce, ycks⟩, ⟨yek, yen, yex, yeks⟩, ⟨yvk, yvn, yvx, yvks⟩, yf, yn, yks⟩, s5⟩ := q3
    simp only [asA, coA, exA, List.cons_append, List.nil_append] at h6 h7 h9 ⊢
    refine aM [] Tryd.func45 rfl Tryd.ntmps45 (Nat.le_of_ble_eq_true rfl) (Nat.le_of_ble_eq_true rfl) fun w0 G0 B0 Pr hB0 => ?_
    simp only [aS, aJ, List.cons_append, List.nil_append]
    repeat' (first | (with_reducible refine hY _ ?_; clear hY Y) | ((with_reducible first | refine aD rfl (aN fun K' hK' => ab ?_) | refine hK' _ (ac fun Y hY => ab ?_) | refine bV rfl (ac fun Y hY => ab ?_) | refine ac fun Y hY => ab ?_ | refine aN fun K' hK' => ab ?_ | refine ae tk0 aH (ac fun Y hY => ab ?_) | refine ab ?_ | refine av ?_ | refine dg rfl (dp fun K' hK' => ab ?_) | refine hK' _ _ (ac fun Y hY => ab ?_)); (try clear hK' K'); (try dsimp only [aop]); try simp only [go_sem, ↓reduceIte, Nat.reduceEqDiff, Nat.reduceLT, Nat.reduceLeDiff, Nat.reduceAdd, Nat.reduceSub, Nat.reduceMul, Nat.reduceBEq, Nat.reduceBNe, Nat.reducePow, Int.reduceToNat, Int.reduceLE, Int.reduceLT, Int.reduceMul, Int.reduceEq, Int.reducePow, Int.reduceAdd, Int.reduceSub, Int.reduceNeg, reduceCtorEq, aH, Tryd.results45]) | (with_reducible first | refine aj ?_ | refine bl ?_ | refine ar ?_ | refine au ?_ | refine aT fun K hK => ?_ | refine aK ?_ | refine aC ?_ | refine a8 ?_ | refine ax ?_ | refine aF ?_ | refine cn ?_ | refine gT fun K hK => ?_) | (with_reducible refine hK _ ?_; clear hK K) | (with_reducible refine hK _ _ ?_ ?_; (· kernel_rfl); clear hK K) | ((with_reducible first | refine bh ?_ ?_ | refine al ?_ ?_); (· decide)) | (with_reducible refine cj tk0 aH ?_ ?_; (· kernel_rfl)) | (with_reducible refine aa (h1) ?_) | (with_reducible refine aa (h2) ?_) | (with_reducible refine aa (h3) ?_) | (with_reducible refine aa (h4) ?_) | (with_reducible refine aa (h5) ?_) | (with_reducible refine aa (h6) ?_) | (with_reducible refine aa (h7) ?_) | (with_reducible refine aa (h8) ?_) | (with_reducible refine aa (h9) ?_))
    all_goals first | rfl | exact ⟨rfl, rfl⟩
  simp only [Bool.false_eq_true, if_false]
  have h5 := cf c4
  cases c5 : s.is [40]
  case true =>
    simp only [if_true]
    have h6 := gq c5
    have hm1 := eS c5
    have h7 := i7 ha [40] [41] s (by omega)
    generalize cZ o [40] [41] s = q3 at *
    obtain ⟨⟨yk, ⟨yck, yce, ycks⟩, ⟨yek, yen, yex, yeks⟩, ⟨yvk, yvn, yvx, yvks⟩, yf, yn, yks⟩, s5⟩ := q3
    simp only [asA, coA, exA, List.cons_append, List.nil_append] at h7 ⊢
    refine aM [] Tryd.func45 rfl Tryd.ntmps45 (Nat.le_of_ble_eq_true rfl) (Nat.le_of_ble_eq_true rfl) fun w0 G0 B0 Pr hB0 => ?_
    simp only [aS, aJ, List.cons_append, List.nil_append]
    repeat' (first | (with_reducible refine hY _ ?_; clear hY Y) | ((with_reducible first | refine aD rfl (aN fun K' hK' => ab ?_) | refine hK' _ (ac fun Y hY => ab ?_) | refine bV rfl (ac fun Y hY => ab ?_) | refine ac fun Y hY => ab ?_ | refine aN fun K' hK' => ab ?_ | refine ae tk0 aH (ac fun Y hY => ab ?_) | refine ab ?_ | refine av ?_); (try clear hK' K'); (try dsimp only [aop]); try simp only [go_sem, ↓reduceIte, Nat.reduceEqDiff, Nat.reduceLT, Nat.reduceLeDiff, Nat.reduceAdd, Nat.reduceSub, Nat.reduceMul, Nat.reduceBEq, Nat.reduceBNe, Nat.reducePow, Int.reduceToNat, Int.reduceLE, Int.reduceLT, Int.reduceMul, Int.reduceEq, Int.reducePow, Int.reduceAdd, Int.reduceSub, Int.reduceNeg, reduceCtorEq, aH, Tryd.results45]) | (with_reducible first | refine aj ?_ | refine bl ?_ | refine ar ?_ | refine au ?_ | refine aT fun K hK => ?_ | refine aK ?_ | refine aC ?_ | refine bA ?_ | refine b6 ?_ | refine ax ?_ | refine aF ?_) | (with_reducible refine hK _ ?_; clear hK K) | ((with_reducible first | refine bh ?_ ?_ | refine al ?_ ?_); (· decide)) | (with_reducible refine aa (h1) ?_) | (with_reducible refine aa (h2) ?_) | (with_reducible refine aa (h3) ?_) | (with_reducible refine aa (h4) ?_) | (with_reducible refine aa (h5) ?_) | (with_reducible refine aa (h6) ?_) | (with_reducible refine aa (h7) ?_))
    all_goals first | rfl | exact ⟨rfl, rfl⟩
  simp only [Bool.false_eq_true, if_false]
  have h6 := gP c5
  have h7 := gA s 11
  generalize s.fail 11 = s1 at *
  refine aM [] Tryd.func45 rfl Tryd.ntmps45 (Nat.le_of_ble_eq_true rfl) (Nat.le_of_ble_eq_true rfl) fun w0 G0 B0 Pr hB0 => ?_
  simp only [aS, aJ, List.cons_append, List.nil_append]
  repeat' (first | (with_reducible refine hY _ ?_; clear hY Y) | ((with_reducible first | refine aD rfl (aN fun K' hK' => ab ?_) | refine hK' _ (ac fun Y hY => ab ?_) | refine bV rfl (ac fun Y hY => ab ?_) | refine ac fun Y hY => ab ?_ | refine aN fun K' hK' => ab ?_ | refine ae tk0 aH (ac fun Y hY => ab ?_) | refine ab ?_ | refine av ?_); (try clear hK' K'); (try dsimp only [aop]); try simp only [go_sem, ↓reduceIte, Nat.reduceEqDiff, Nat.reduceLT, Nat.reduceLeDiff, Nat.reduceAdd, Nat.reduceSub, Nat.reduceMul, Nat.reduceBEq, Nat.reduceBNe, Nat.reducePow, Int.reduceToNat, Int.reduceLE, Int.reduceLT, Int.reduceMul, Int.reduceEq, Int.reducePow, Int.reduceAdd, Int.reduceSub, Int.reduceNeg, reduceCtorEq, aH, Tryd.results45]) | (with_reducible first | refine aj ?_ | refine bl ?_ | refine ar ?_ | refine au ?_ | refine aT fun K hK => ?_ | refine aC ?_ | refine a8 ?_ | refine ax ?_ | refine aF ?_) | (with_reducible refine hK _ ?_; clear hK K) | ((with_reducible first | refine bh ?_ ?_ | refine al ?_ ?_); (· decide)) | (with_reducible refine aa (h1) ?_) | (with_reducible refine aa (h2) ?_) | (with_reducible refine aa (h3) ?_) | (with_reducible refine aa (h4) ?_) | (with_reducible refine aa (h5) ?_) | (with_reducible refine aa (h6) ?_) | (with_reducible refine aa (h7) ?_))
  all_goals first | rfl | exact ⟨rfl, rfl⟩
theorem oS : ∀ f, AsK 45 f (j9 f)
  | 0 => fun s hs => absurd hs (Nat.not_lt_zero _)
  | f + 1 => sE (oS f) (gR f)
theorem mW (s : PS) : AFn Tryd.prog 27 [.loc 20000 0] [pA s] (.agg (asA (fA s).1)) [pA (fA s).2] :=
  pj (oS FU) (gR FU) s (dR s)
end Go.Proofs.YtpkcgdikbjaoaaaDoor
