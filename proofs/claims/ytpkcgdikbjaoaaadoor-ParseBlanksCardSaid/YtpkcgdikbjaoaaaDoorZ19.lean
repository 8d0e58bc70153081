/- The parser in K: calls, what is told a name. -/
import Derived.Test.YtpkcgdikbjaoaaaDoorZ18
import Derived.Test.YtpkcgdikbjaoaaaDoorZ12
namespace Go.Proofs.YtpkcgdikbjaoaaaDoor
set_option linter.unusedSimpArgs false
set_option linter.unusedVariables false
open Go.RowKit
def cD : Nat → List Nat
  | 0 => [0]
  | 1 => [0, 2]
  | 2 => [0, 2]
  | 3 => [0, 2, 3]
  | 4 => [0, 2, 3]
  | 5 => [0, 2, 3]
  | 6 => [0, 2, 3]
  | 7 => [0, 2, 3]
  | 8 => [2, 3]
  | _ => []
set_option maxRecDepth 100000 in
set_option maxHeartbeats 4000000 in
theorem oV (s : PS) : AFn Tryd.prog 65 [.loc 20000 0] [pA s] (.agg (stW s.call.1)) [pA s.call.2] := by
  refine dr (r := .agg (stR .none .none .full .full .full s.call.1)) ?_ 2 (fx (.inl rfl) (.inl rfl) (.inr rfl) (.inr rfl) (.inr rfl) _)
  unfold PS.call
  simp only
  have h1 := bS s [99, 97, 108, 108]
  have h2 := eZ (s.due [[99, 97, 108, 108]])
  generalize s.due [[99, 97, 108, 108]] = s1 at *
  generalize s1.word 1 = q1 at *
  obtain ⟨x, s2⟩ := q1
  have h3 := bS s2 [40]
  simp only at h2 h3 ⊢
  have h4 := ny (s2.due [[40]]) [59]
  generalize s2.due [[40]] = s3 at *
  generalize s3.exprs [59] = q2 at *
  obtain ⟨rs, s4⟩ := q2
  have h5 := bS s4 [59]
  simp only at h4 h5 ⊢
  have h6 := ny (s4.due [[59]]) [41]
  generalize s4.due [[59]] = s5 at *
  generalize s5.exprs [41] = q3 at *
  obtain ⟨gs, s6⟩ := q3
  have h7 := bS s6 [41]
  simp only at h6 h7 ⊢
  generalize s6.due [[41]] = s7 at *
  refine aM [] Tryd.func65 rfl Tryd.ntmps65 (Nat.le_of_ble_eq_true rfl) (Nat.le_of_ble_eq_true rfl) fun w0 G0 B0 Pr hB0 => ?_
  simp only [aS, aJ, List.cons_append, List.nil_append]
  repeat' (first | (with_reducible refine hY _ ?_; clear hY Y) | ((with_reducible first | refine aD rfl (aN fun K' hK' => ab ?_) | refine hK' _ (ac fun Y hY => ab ?_) | refine ae tk0 cD (ac fun Y hY => ab ?_) | refine ab ?_ | refine av ?_); (try clear hK' K'); (try dsimp only [aop]); try simp only [go_sem, ↓reduceIte, Nat.reduceEqDiff, Nat.reduceLT, Nat.reduceLeDiff, Nat.reduceAdd, Nat.reduceSub, Nat.reduceMul, Nat.reduceBEq, Nat.reduceBNe, Nat.reducePow, Int.reduceToNat, Int.reduceLE, Int.reduceLT, Int.reduceMul, Int.reduceEq, Int.reducePow, Int.reduceAdd, Int.reduceSub, Int.reduceNeg, reduceCtorEq, cD, Tryd.results65]) | (with_reducible first | refine aj ?_ | refine ar ?_ | refine au ?_ | refine aT fun K hK => ?_ | refine aF ?_) | (with_reducible refine hK _ ?_; clear hK K) | (with_reducible refine aa (h1) ?_) | (with_reducible refine aa (h2) ?_) | (with_reducible refine aa (h3) ?_) | (with_reducible refine aa (h4) ?_) | (with_reducible refine aa (h5) ?_) | (with_reducible refine aa (h6) ?_) | (with_reducible refine aa (h7) ?_))
  all_goals first | rfl | exact ⟨rfl, rfl⟩
def aQ : Nat → List Nat
  | 0 => [0]
  | 1 => [0, 2]
  | 2 => [0, 2, 3]
  | 3 => [0, 2, 3, 4]
  | 4 => [0, 2, 3, 4]
  | 5 => [0, 2, 3, 4]
  | 6 => [0, 2, 3, 4]
  | 7 => [0, 2, 3, 4]
  | 8 => [0, 2, 3, 4]
  | 9 => [0, 2, 3, 4]
  | 10 => [0, 2, 3, 4]
  | 11 => [0, 2, 3, 4]
  | 12 => [0, 2, 3, 4]
  | 13 => [0, 2, 3, 4]
  | 14 => [0, 2, 3, 4]
  | 15 => [0, 2, 3, 4]
  | 16 => [0, 2, 3, 4]
  | 17 => [2, 3, 4]
  | 18 => [2, 3]
  | _ => []
set_option maxRecDepth 100000 in
set_option maxHeartbeats 8000000 in
theorem tV (s : PS) : AFn Tryd.prog 66 [.loc 20000 0] [pA s] (.agg (stW s.set.1)) [pA s.set.2] := by
  unfold PS.set
  simp only
  have h1 := eZ s
  generalize s.word 1 = q1 at *
  obtain ⟨x, s1⟩ := q1
  have h2 := bS s1 [58, 61]
  simp only at h1 h2 ⊢
  generalize s1.due [[58, 61]] = s2 at *
  cases c1 : s2.is [103, 101, 116]
  case true =>
    simp only [if_true]
    have h3 := b0 c1
    have h4 := iR s2.drop
    generalize s2.drop = s3 at *
    generalize s3.place = q2 at *
    obtain ⟨⟨ek0, en0, ex0, eks0⟩, f0, s4⟩ := q2
    refine dr (r := .agg (stR .full .full .full .full .full _)) ?_ 2 (fx (.inr rfl) (.inr rfl) (.inr rfl) (.inr rfl) (.inr rfl) _)
    simp only [exA] at h4 ⊢
    refine aM [] Tryd.func66 rfl Tryd.ntmps66 (Nat.le_of_ble_eq_true rfl) (Nat.le_of_ble_eq_true rfl) fun w0 G0 B0 Pr hB0 => ?_
    simp only [aS, aJ, List.cons_append, List.nil_append]
    repeat' (first | (with_reducible refine hY _ ?_; clear hY Y) | ((with_reducible first | refine aD rfl (aN fun K' hK' => ab ?_) | refine hK' _ (ac fun Y hY => ab ?_) | refine ac fun Y hY => ab ?_ | refine ae tk0 aQ (ac fun Y hY => ab ?_) | refine ab ?_ | refine av ?_); (try clear hK' K'); (try dsimp only [aop]); try simp only [go_sem, ↓reduceIte, Nat.reduceEqDiff, Nat.reduceLT, Nat.reduceLeDiff, Nat.reduceAdd, Nat.reduceSub, Nat.reduceMul, Nat.reduceBEq, Nat.reduceBNe, Nat.reducePow, Int.reduceToNat, Int.reduceLE, Int.reduceLT, Int.reduceMul, Int.reduceEq, Int.reducePow, Int.reduceAdd, Int.reduceSub, Int.reduceNeg, reduceCtorEq, aQ, Tryd.results66]) | (with_reducible first | refine aj ?_ | refine ar ?_ | refine au ?_ | refine aT fun K hK => ?_ | refine aK ?_ | refine a8 ?_ | refine ax ?_ | refine aF ?_) | (with_reducible refine hK _ ?_; clear hK K) | ((with_reducible refine al ?_ ?_); (· decide)) | (with_reducible refine aa (h1) ?_) | (with_reducible refine aa (h2) ?_) | (with_reducible refine aa (h3) ?_) | (with_reducible refine aa (h4) ?_))
    all_goals first | rfl | exact ⟨rfl, rfl⟩
  simp only [Bool.false_eq_true, if_false]
  have h3 := cf c1
  cases c2 : s2.is [110, 101, 119]
  case true =>
    simp only [if_true]
    have h4 := b0 c2
    have h5 := bS s2.drop [40]
    generalize s2.drop = s3 at *
    have h6 := eZ (s3.due [[40]])
    generalize s3.due [[40]] = s4 at *
    have hm0 := dR (s4.word 1).2
    generalize s4.word 1 = q2 at *
    obtain ⟨R, hR⟩ : ∃ R, R = eq [44] (fun s : PS => s.word 1) FU [q2.1] q2.2 := ⟨_, rfl⟩
    rw [← hR]
    refine dr (r := .agg (stR .full .full .none .full .full _)) ?_ 2 (fx (.inr rfl) (.inr rfl) (.inl rfl) (.inr rfl) (.inr rfl) _)
    refine aM [] Tryd.func66 rfl Tryd.ntmps66 (Nat.le_of_ble_eq_true rfl) (Nat.le_of_ble_eq_true rfl) fun w0 G0 B0 Pr hB0 => ?_
    simp only [aS, aJ, List.cons_append, List.nil_append]
    repeat' (first | (with_reducible refine hY _ ?_; clear hY Y) | ((with_reducible first | refine aD rfl (aN fun K' hK' => ab ?_) | refine hK' _ (ac fun Y hY => ab ?_) | refine ac fun Y hY => ab ?_ | refine ae tk0 aQ (ac fun Y hY => ab ?_) | refine ab ?_); (try clear hK' K'); (try dsimp only [aop]); try simp only [go_sem, ↓reduceIte, Nat.reduceEqDiff, Nat.reduceLT, Nat.reduceLeDiff, Nat.reduceAdd, Nat.reduceSub, Nat.reduceMul, Nat.reduceBEq, Nat.reduceBNe, Nat.reducePow, Int.reduceToNat, Int.reduceLE, Int.reduceLT, Int.reduceMul, Int.reduceEq, Int.reducePow, Int.reduceAdd, Int.reduceSub, Int.reduceNeg, reduceCtorEq, aQ, Tryd.results66]) | (with_reducible first | refine aj ?_ | refine ar ?_ | refine au ?_ | refine aT fun K hK => ?_ | refine aK ?_ | refine aC ?_ | refine ax ?_ | refine bZ ?_) | (with_reducible refine hK _ ?_; clear hK K) | ((with_reducible refine al ?_ ?_); (· decide)) | (with_reducible refine aa (h1) ?_) | (with_reducible refine aa (h2) ?_) | (with_reducible refine aa (h3) ?_) | (with_reducible refine aa (h4) ?_) | (with_reducible refine aa (h5) ?_) | (with_reducible refine aa (h6) ?_))
    refine fB (lB (b := 10043) (k0 := 10003) (i := 32) 9 (by decide) (by decide) (by decide) rfl rfl rfl) ?_
    refine b7 (α := Nat × List Wd × PS) (fun p => [(0, .loc 20000 0), (2, .loc 10002 0), (3, .loc 10003 0), (4, bs x), (10002, .bc (stR .full .full .full .full .full stZ) 51), (10003, .bc (stR .full .full (.tok 10043) .full .full (.mk 4 [] [] [] exZ exZ coZ asZ [] [] p.2.1 [] [])) 51), (10043, .bt p.2.1.length 9), (20000, pA p.2.2)])
      (fun p => eq [44] (fun s : PS => s.word 1) p.1 p.2.1 p.2.2 = R ∧ p.2.2.mu < p.1 ∧ p.2.1.length + p.1 ≤ 80000) (fun p => p.1) (FU, [q2.1], q2.2) [0, 2, 3, 4] ?_ ⟨hR.symm, hm0, (by simp [FU])⟩ ?_
    · simp only [go_sem, ↓reduceIte, Nat.reduceEqDiff, Nat.reduceLT, Nat.reduceLeDiff, Nat.reduceAdd, Nat.reduceSub, Nat.reduceMul, Nat.reduceBEq, Nat.reduceBNe, Nat.reducePow, Int.reduceToNat, Int.reduceLE, Int.reduceLT, Int.reduceMul, Int.reduceEq, Int.reducePow, Int.reduceAdd, Int.reduceSub, Int.reduceNeg, reduceCtorEq] <;> rfl
    rintro ⟨f, out, s5⟩ ⟨hgo, hmu, hlen⟩ ih
    simp only [stR, stZ, dz, asA, coA, exA, asZ, coZ, exZ, gK, eG, b4, List.cons_append, List.nil_append, List.map_nil, List.length_nil] at ih hgo hmu hlen ⊢
    clear hR
    obtain ⟨f, rfl⟩ : ∃ f', f = f' + 1 := ⟨f - 1, by omega⟩
    rw [eq] at hgo
    cases hc : s5.is [44]
    case true =>
      have h7 := b0 hc
      have hm2 := bB hc
      have h8 := eZ s5.drop
      have hm3 := cX s5.drop 1
      rw [if_pos hc] at hgo
      generalize s5.drop.word 1 = q5 at *
      repeat' (first | (with_reducible refine hY _ ?_; clear hY Y) | ((with_reducible first | refine aD rfl (aN fun K' hK' => ab ?_) | refine hK' _ (ac fun Y hY => ab ?_) | refine ac fun Y hY => ab ?_ | refine ae tk0 aQ (ac fun Y hY => ab ?_) | refine ab ?_ | refine dg rfl (dp fun K' hK' => ab ?_) | refine hK' _ _ (ac fun Y hY => ab ?_)); (try clear hK' K'); (try dsimp only [aop]); try simp only [go_sem, ↓reduceIte, Nat.reduceEqDiff, Nat.reduceLT, Nat.reduceLeDiff, Nat.reduceAdd, Nat.reduceSub, Nat.reduceMul, Nat.reduceBEq, Nat.reduceBNe, Nat.reducePow, Int.reduceToNat, Int.reduceLE, Int.reduceLT, Int.reduceMul, Int.reduceEq, Int.reducePow, Int.reduceAdd, Int.reduceSub, Int.reduceNeg, reduceCtorEq, aQ, Tryd.results66, List.length_map]) | (with_reducible first | refine aj ?_ | refine ar ?_ | refine au ?_ | refine aT fun K hK => ?_ | refine aK ?_ | refine a8 ?_ | refine ax ?_ | refine aP ?_ | refine cn ?_ | refine gT fun K hK => ?_) | (with_reducible refine hK _ ?_; clear hK K) | (with_reducible refine hK _ _ ?_ ?_; (· kernel_rfl); clear hK K) | ((with_reducible refine al ?_ ?_); (· decide)) | (with_reducible refine cj tk0 aQ ?_ ?_; (· kernel_rfl)) | (with_reducible refine bT ?_ ?_; (· (try and_intros) <;> first | omega | assumption | (simp only [List.length_append, List.length_map, List.length_cons, List.length_nil] <;> omega))) | (with_reducible refine aa (h7) ?_) | (with_reducible refine aa (h8) ?_))
      refine bI [0, 2, 3, 4] (by simp only [go_sem, ↓reduceIte, Nat.reduceEqDiff, Nat.reduceLT, Nat.reduceLeDiff, Nat.reduceAdd, Nat.reduceSub, Nat.reduceMul, Nat.reduceBEq, Nat.reduceBNe, Nat.reducePow, Int.reduceToNat, Int.reduceLE, Int.reduceLT, Int.reduceMul, Int.reduceEq, Int.reducePow, Int.reduceAdd, Int.reduceSub, Int.reduceNeg, reduceCtorEq]; exact rfl) ?_
      refine et (ih (f, out ++ [q5.1], q5.2) ⟨hgo, by simp only; omega, (by simp only [List.length_append, List.length_cons, List.length_nil]; omega)⟩ (by simp only; omega)) ?_
      simp
    case false =>
      have h7 := cf hc
      rw [if_neg (by rw [hc]; simp)] at hgo
      subst hgo
      have h8 := bS s5 [41]
      generalize s5.due [[41]] = s6 at *
      repeat' (first | (with_reducible refine hY _ ?_; clear hY Y) | ((with_reducible first | refine aD rfl (aN fun K' hK' => ab ?_) | refine hK' _ (ac fun Y hY => ab ?_) | refine ac fun Y hY => ab ?_ | refine ae tk0 aQ (ac fun Y hY => ab ?_) | refine ab ?_ | refine av ?_); (try clear hK' K'); (try dsimp only [aop]); try simp only [go_sem, ↓reduceIte, Nat.reduceEqDiff, Nat.reduceLT, Nat.reduceLeDiff, Nat.reduceAdd, Nat.reduceSub, Nat.reduceMul, Nat.reduceBEq, Nat.reduceBNe, Nat.reducePow, Int.reduceToNat, Int.reduceLE, Int.reduceLT, Int.reduceMul, Int.reduceEq, Int.reducePow, Int.reduceAdd, Int.reduceSub, Int.reduceNeg, reduceCtorEq, aQ, Tryd.results66]) | (with_reducible first | refine aj ?_ | refine ar ?_ | refine au ?_ | refine aT fun K hK => ?_ | refine aC ?_ | refine b3 ?_ | refine a8 ?_ | refine bG ?_ | refine aF ?_ | refine bH ?_) | (with_reducible refine hK _ ?_; clear hK K) | ((with_reducible refine al ?_ ?_); (· decide)) | (with_reducible refine aa (h7) ?_) | (with_reducible refine aa (h8) ?_))
      all_goals first | rfl | exact ⟨rfl, rfl⟩
  simp only [Bool.false_eq_true, if_false]
  have h4 := cf c2
  cases c3 : s2.is [99, 97, 108, 108]
  case true =>
    simp only [if_true]
    have h5 := gq c3
    have h6 := oV s2
    generalize s2.call = q2 at *
    obtain ⟨⟨k, n, f, y, ⟨ek, en, ex, eks⟩, ⟨vk, vn, vx, vks⟩, ⟨ck, ce, cks⟩, ⟨ak, ⟨ack, ace, acks⟩, ⟨aek, aen, aex, aeks⟩, ⟨avk, avn, avx, avks⟩, af, an, aks⟩, rs, gs, fs, b, l⟩, s3⟩ := q2
    simp only [stW, exA, coA, asA, List.cons_append, List.nil_append, List.map_cons, List.map_nil, wkA, St.named] at h6 ⊢
    refine aM [] Tryd.func66 rfl Tryd.ntmps66 (Nat.le_of_ble_eq_true rfl) (Nat.le_of_ble_eq_true rfl) fun w0 G0 B0 Pr hB0 => ?_
    simp only [aS, aJ, List.cons_append, List.nil_append]
    repeat' (first | (with_reducible refine hY _ ?_; clear hY Y) | ((with_reducible first | refine aD rfl (aN fun K' hK' => ab ?_) | refine hK' _ (ac fun Y hY => ab ?_) | refine ac fun Y hY => ab ?_ | refine ae tk0 aQ (ac fun Y hY => ab ?_) | refine ab ?_ | refine av ?_); (try clear hK' K'); (try dsimp only [aop]); try simp only [go_sem, ↓reduceIte, Nat.reduceEqDiff, Nat.reduceLT, Nat.reduceLeDiff, Nat.reduceAdd, Nat.reduceSub, Nat.reduceMul, Nat.reduceBEq, Nat.reduceBNe, Nat.reducePow, Int.reduceToNat, Int.reduceLE, Int.reduceLT, Int.reduceMul, Int.reduceEq, Int.reducePow, Int.reduceAdd, Int.reduceSub, Int.reduceNeg, reduceCtorEq, aQ, Tryd.results66]) | (with_reducible first | refine aj ?_ | refine ar ?_ | refine au ?_ | refine aT fun K hK => ?_ | refine aK ?_ | refine aC ?_ | refine a8 ?_ | refine ax ?_ | refine aF ?_) | (with_reducible refine hK _ ?_; clear hK K) | ((with_reducible refine al ?_ ?_); (· decide)) | (with_reducible refine aa (h1) ?_) | (with_reducible refine aa (h2) ?_) | (with_reducible refine aa (h3) ?_) | (with_reducible refine aa (h4) ?_) | (with_reducible refine aa (h5) ?_) | (with_reducible refine aa (h6) ?_))
    all_goals first | rfl | exact ⟨rfl, rfl⟩
  simp only [Bool.false_eq_true, if_false]
  have h5 := gP c3
  have h6 := dx s2
  generalize cb s2 = q2 at *
  obtain ⟨⟨ek0, en0, ex0, eks0⟩, s3⟩ := q2
  refine dr (r := .agg (stR .full .full .full .full .full _)) ?_ 2 (fx (.inr rfl) (.inr rfl) (.inr rfl) (.inr rfl) (.inr rfl) _)
  simp only [exA] at h6 ⊢
  refine aM [] Tryd.func66 rfl Tryd.ntmps66 (Nat.le_of_ble_eq_true rfl) (Nat.le_of_ble_eq_true rfl) fun w0 G0 B0 Pr hB0 => ?_
  simp only [aS, aJ, List.cons_append, List.nil_append]
  repeat' (first | (with_reducible refine hY _ ?_; clear hY Y) | ((with_reducible first | refine aD rfl (aN fun K' hK' => ab ?_) | refine hK' _ (ac fun Y hY => ab ?_) | refine ac fun Y hY => ab ?_ | refine ae tk0 aQ (ac fun Y hY => ab ?_) | refine ab ?_ | refine av ?_); (try clear hK' K'); (try dsimp only [aop]); try simp only [go_sem, ↓reduceIte, Nat.reduceEqDiff, Nat.reduceLT, Nat.reduceLeDiff, Nat.reduceAdd, Nat.reduceSub, Nat.reduceMul, Nat.reduceBEq, Nat.reduceBNe, Nat.reducePow, Int.reduceToNat, Int.reduceLE, Int.reduceLT, Int.reduceMul, Int.reduceEq, Int.reducePow, Int.reduceAdd, Int.reduceSub, Int.reduceNeg, reduceCtorEq, aQ, Tryd.results66]) | (with_reducible first | refine aj ?_ | refine ar ?_ | refine au ?_ | refine aT fun K hK => ?_ | refine aC ?_ | refine a8 ?_ | refine ax ?_ | refine aF ?_) | (with_reducible refine hK _ ?_; clear hK K) | ((with_reducible refine al ?_ ?_); (· decide)) | (with_reducible refine aa (h1) ?_) | (with_reducible refine aa (h2) ?_) | (with_reducible refine aa (h3) ?_) | (with_reducible refine aa (h4) ?_) | (with_reducible refine aa (h5) ?_) | (with_reducible refine aa (h6) ?_))
  all_goals first | rfl | exact ⟨rfl, rfl⟩
end Go.Proofs.YtpkcgdikbjaoaaaDoor
