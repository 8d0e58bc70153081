/- The parser in K: procedures, programs. -/
import Derived.Test.YtpkcgdikbjaoaaaDoorZ20
import Derived.Test.YtpkcgdikbjaoaaaDoorZ21
namespace Go.Proofs.YtpkcgdikbjaoaaaDoor
set_option linter.unusedSimpArgs false
set_option linter.unusedVariables false
open Go.RowKit
theorem sP (s : PS) (w1 w2 : Wd) : AFn Tryd.prog 24 [.loc 20000 0, .sl [bs w1, bs w2] 2 .full] [pA s] (.tup []) [pA (s.due [w1, w2])] := ka s [w1, w2] .full (by simp)
def cE : Nat → List Nat
  | 0 => [0]
  | 1 => [0, 2]
  | 2 => [0, 2]
  | 3 => [0, 2, 3]
  | 4 => [0, 2, 3]
  | 5 => [0, 2, 3]
  | 6 => [0, 2, 3]
  | 7 => [0, 2, 3]
  | 8 => [0, 2, 3]
  | 9 => [0, 2, 3]
  | 10 => [0, 2, 3]
  | 11 => [0, 2, 3]
  | 12 => [2, 3]
  | _ => []
set_option maxRecDepth 100000 in
set_option maxHeartbeats 8000000 in
theorem ta (s : PS) : AFn Tryd.prog 13 [.loc 20000 0] [pA s] (.agg (pcW s.proc.1)) [pA s.proc.2] := by
  unfold PS.proc
  simp only
  have h1 := bS s [112, 114, 111, 99]
  generalize s.due [[112, 114, 111, 99]] = s1 at *
  have h2 := eZ s1
  generalize s1.word 1 = q1 at *
  obtain ⟨x, s2⟩ := q1
  have h3 := bS s2 [40]
  simp only at h2 h3 ⊢
  generalize s2.due [[40]] = s3 at *
  have h4 := nC s3 [59]
  generalize s3.names [59] = q2 at *
  obtain ⟨ps, s4⟩ := q2
  have h5 := bS s4 [59]
  simp only at h4 h5 ⊢
  generalize s4.due [[59]] = s5 at *
  have h6 := nC s5 [41]
  generalize s5.names [41] = q3 at *
  obtain ⟨gs, s6⟩ := q3
  have h7 := sP s6 [41] [114, 101, 113, 117, 105, 114, 101, 115]
  simp only at h6 h7 ⊢
  generalize s6.due [[41], [114, 101, 113, 117, 105, 114, 101, 115]] = s7 at *
  have h8 := mW s7
  generalize fA s7 = q4 at *
  obtain ⟨⟨ak, ⟨ack, ace, acks⟩, ⟨aek, aen, aex, aeks⟩, ⟨avk, avn, avx, avks⟩, af, an, aks⟩, s8⟩ := q4
  have h9 := bS s8 [101, 110, 115, 117, 114, 101, 115]
  simp only at h8 h9 ⊢
  generalize s8.due [[101, 110, 115, 117, 114, 101, 115]] = s9 at *
  have h10 := mW s9
  generalize fA s9 = q5 at *
  obtain ⟨⟨bk, ⟨bck, bce, bcks⟩, ⟨bek, ben, bex, beks⟩, ⟨bvk, bvn, bvx, bvks⟩, bf, bn, bks⟩, s10⟩ := q5
  have h11 := rT s10
  simp only at h10 h11 ⊢
  generalize eX s10 = q6 at *
  simp only [asA, coA, exA, List.cons_append, List.nil_append] at h8 h10
  refine aM [] Tryd.func13 rfl Tryd.ntmps13 (Nat.le_of_ble_eq_true rfl) (Nat.le_of_ble_eq_true rfl) fun w0 G0 B0 Pr hB0 => ?_
  simp only [aS, aJ, List.cons_append, List.nil_append]
  repeat' (first | (with_reducible refine hY _ ?_; clear hY Y) | ((with_reducible first | refine aD rfl (aN fun K' hK' => ab ?_) | refine hK' _ (ac fun Y hY => ab ?_) | refine ae tk0 cE (ac fun Y hY => ab ?_) | refine ab ?_ | refine av ?_); (try clear hK' K'); (try dsimp only [aop]); try simp only [go_sem, ↓reduceIte, Nat.reduceEqDiff, Nat.reduceLT, Nat.reduceLeDiff, Nat.reduceAdd, Nat.reduceSub, Nat.reduceMul, Nat.reduceBEq, Nat.reduceBNe, Nat.reducePow, Int.reduceToNat, Int.reduceLE, Int.reduceLT, Int.reduceMul, Int.reduceEq, Int.reducePow, Int.reduceAdd, Int.reduceSub, Int.reduceNeg, reduceCtorEq, cE, Tryd.results13]) | (with_reducible first | refine aj ?_ | refine ar ?_ | refine au ?_ | refine aT fun K hK => ?_ | refine aF ?_) | (with_reducible refine hK _ ?_; clear hK K) | (with_reducible refine aa (h1) ?_) | (with_reducible refine aa (h2) ?_) | (with_reducible refine aa (h3) ?_) | (with_reducible refine aa (h4) ?_) | (with_reducible refine aa (h5) ?_) | (with_reducible refine aa (h6) ?_) | (with_reducible refine aa (h7) ?_) | (with_reducible refine aa (h8) ?_) | (with_reducible refine aa (h9) ?_) | (with_reducible refine aa (h10) ?_) | (with_reducible refine aa (h11) ?_))
  all_goals first | rfl | exact ⟨rfl, rfl⟩
def ly (l : Wd) : AV :=
  if (cg l).2.1 = 0 then
    match (cH l).2.err with
    | none => .tup [.agg [.sl (d9 (cH l).1) (cH l).1.length .none], .c .nilIface]
    | some x => .tup [.agg [.sl [] 0 .full], gh (some x)]
  else .tup [.agg [.sl [] 0 .full], mI (cg l).2.1 (cg l).2.2]
def aU : Nat → List Nat
  | 0 => [0]
  | 1 => [0, 2]
  | 2 => [0, 2, 4, 5]
  | 3 => [2, 5]
  | 4 => [0, 2, 4]
  | 5 => [2, 6]
  | 6 => [2, 6, 7]
  | 7 => [2, 6, 7]
  | 8 => [2, 6, 7]
  | 9 => [2, 6]
  | 10 => [2, 7]
  | _ => []
set_option maxRecDepth 100000 in
set_option maxHeartbeats 8000000 in
theorem iI (l : Wd) : AFn Tryd.prog 6 [bs l] [] (ly l) [] := by
  have h1 := qv l
  unfold ly
  unfold nI at h1
  by_cases hz : (cg l).2.1 = 0
  case neg =>
    rw [if_neg hz] at h1 ⊢
    unfold mI at h1 ⊢
    generalize cg l = R at *
    obtain ⟨ts, e, a⟩ := R
    simp only at h1 hz ⊢
    by_cases ha : a < 0 ∨ e = 0
    · rw [if_pos ha] at h1 ⊢
      rw [cO hz] at h1 ⊢
      refine aM [] Tryd.func6 rfl Tryd.ntmps6 (Nat.le_of_ble_eq_true rfl) (Nat.le_of_ble_eq_true rfl) fun w0 G0 B0 Pr hB0 => ?_
      simp only [aS, aJ, List.cons_append, List.nil_append]
      repeat' (first | (with_reducible refine hY _ ?_; clear hY Y) | ((with_reducible first | refine aD rfl (aN fun K' hK' => ab ?_) | refine hK' _ (ac fun Y hY => ab ?_) | refine ac fun Y hY => ab ?_ | refine ae tk0 aU (ac fun Y hY => ab ?_) | refine ab ?_ | refine av ?_); (try clear hK' K'); (try dsimp only [aop]); try simp only [go_sem, ↓reduceIte, Nat.reduceEqDiff, Nat.reduceLT, Nat.reduceLeDiff, Nat.reduceAdd, Nat.reduceSub, Nat.reduceMul, Nat.reduceBEq, Nat.reduceBNe, Nat.reducePow, Int.reduceToNat, Int.reduceLE, Int.reduceLT, Int.reduceMul, Int.reduceEq, Int.reducePow, Int.reduceAdd, Int.reduceSub, Int.reduceNeg, reduceCtorEq, aU, Tryd.results6]) | (with_reducible first | refine aj ?_ | refine ar ?_ | refine au ?_ | refine aT fun K hK => ?_ | refine aK ?_ | refine bA ?_ | refine aF ?_) | (with_reducible refine hK _ ?_; clear hK K) | ((with_reducible refine al ?_ ?_); (· decide)) | (with_reducible refine aa (h1) ?_))
      all_goals first | rfl | exact ⟨rfl, rfl⟩
    · rw [if_neg ha] at h1 ⊢
      unfold iv at h1 ⊢
      refine aM [] Tryd.func6 rfl Tryd.ntmps6 (Nat.le_of_ble_eq_true rfl) (Nat.le_of_ble_eq_true rfl) fun w0 G0 B0 Pr hB0 => ?_
      simp only [aS, aJ, List.cons_append, List.nil_append]
      repeat' (first | (with_reducible refine hY _ ?_; clear hY Y) | ((with_reducible first | refine aD rfl (aN fun K' hK' => ab ?_) | refine hK' _ (ac fun Y hY => ab ?_) | refine ac fun Y hY => ab ?_ | refine ae tk0 aU (ac fun Y hY => ab ?_) | refine ab ?_ | refine av ?_); (try clear hK' K'); (try dsimp only [aop]); try simp only [go_sem, ↓reduceIte, Nat.reduceEqDiff, Nat.reduceLT, Nat.reduceLeDiff, Nat.reduceAdd, Nat.reduceSub, Nat.reduceMul, Nat.reduceBEq, Nat.reduceBNe, Nat.reducePow, Int.reduceToNat, Int.reduceLE, Int.reduceLT, Int.reduceMul, Int.reduceEq, Int.reducePow, Int.reduceAdd, Int.reduceSub, Int.reduceNeg, reduceCtorEq, aU, Tryd.results6]) | (with_reducible first | refine aj ?_ | refine ar ?_ | refine au ?_ | refine aT fun K hK => ?_ | refine aK ?_ | refine bA ?_ | refine aF ?_) | (with_reducible refine hK _ ?_; clear hK K) | ((with_reducible refine al ?_ ?_); (· decide)) | (with_reducible refine aa (h1) ?_))
      all_goals first | rfl | exact ⟨rfl, rfl⟩
  rw [if_pos hz] at h1 ⊢
  unfold cH
  have e1 : (dB l).l = (cg l).1 ∧ (dB l).end0 = (l.length : Int) ∧ (dB l).depth = 0 ∧ (dB l).err = none := ⟨rfl, rfl, rfl, rfl⟩
  obtain ⟨e1, e2, e3, e4⟩ := e1
  rw [← e1] at h1
  generalize dB l = s0 at *
  obtain ⟨R, hR⟩ : ∃ R, R = dW FU [] s0 := ⟨_, rfl⟩
  rw [← hR]
  have hm0 := dR s0
  refine aM [] Tryd.func6 rfl Tryd.ntmps6 (Nat.le_of_ble_eq_true rfl) (Nat.le_of_ble_eq_true rfl) fun w0 G0 B0 Pr hB0 => ?_
  simp only [aS, aJ, List.cons_append, List.nil_append]
  repeat' (first | (with_reducible refine hY _ ?_; clear hY Y) | ((with_reducible first | refine aD rfl (aN fun K' hK' => ab ?_) | refine hK' _ (ac fun Y hY => ab ?_) | refine ac fun Y hY => ab ?_ | refine ae tk0 aU (ac fun Y hY => ab ?_) | refine ab ?_); (try clear hK' K'); (try dsimp only [aop]); try simp only [go_sem, ↓reduceIte, Nat.reduceEqDiff, Nat.reduceLT, Nat.reduceLeDiff, Nat.reduceAdd, Nat.reduceSub, Nat.reduceMul, Nat.reduceBEq, Nat.reduceBNe, Nat.reducePow, Int.reduceToNat, Int.reduceLE, Int.reduceLT, Int.reduceMul, Int.reduceEq, Int.reducePow, Int.reduceAdd, Int.reduceSub, Int.reduceNeg, reduceCtorEq, aU, Tryd.results6]) | (with_reducible first | refine aj ?_ | refine ar ?_ | refine au ?_ | refine aT fun K hK => ?_ | refine aC ?_ | refine ax ?_ | refine aP ?_ | refine bZ ?_) | (with_reducible refine hK _ ?_; clear hK K) | ((with_reducible refine al ?_ ?_); (· decide)) | (with_reducible refine aa (h1) ?_) | (with_reducible refine bE (fR) ?_))
  refine fB (lB (b := 10040) (k0 := 10007) (i := 0) 49 (by decide) (by decide) (by decide) rfl rfl rfl) ?_
  refine b7 (α := Nat × List Pc × PS) (fun p => [(2, .loc 10002 0), (6, .loc 10021 0), (7, .loc 10007 0), (10002, .bc [.sl [] 0 .full] 32), (10007, .bc [.sl (d9 p.2.1) p.2.1.length (.tok 10040)] 32), (10021, pA p.2.2), (10040, .bt p.2.1.length 49)])
    (fun p => dW p.1 p.2.1 p.2.2 = R ∧ p.2.2.mu < p.1 ∧ p.2.1.length + p.1 ≤ 80000) (fun p => p.1) (FU, [], s0) [2, 6, 7] ?_ ⟨hR.symm, hm0, (by simp [FU])⟩ ?_
  · simp only [go_sem, ↓reduceIte, Nat.reduceEqDiff, Nat.reduceLT, Nat.reduceLeDiff, Nat.reduceAdd, Nat.reduceSub, Nat.reduceMul, Nat.reduceBEq, Nat.reduceBNe, Nat.reducePow, Int.reduceToNat, Int.reduceLE, Int.reduceLT, Int.reduceMul, Int.reduceEq, Int.reducePow, Int.reduceAdd, Int.reduceSub, Int.reduceNeg, reduceCtorEq, pA, e2, e3, e4, b8] <;> rfl
  rintro ⟨f, out, s1⟩ ⟨hgo, hmf, hlen⟩ ih
  simp only at ih hgo hmf hlen ⊢
  clear hR h1 e1 e2 e3 e4 hm0
  obtain ⟨f, rfl⟩ : ∃ f', f = f' + 1 := ⟨f - 1, by omega⟩
  rw [dW] at hgo
  cases he : s1.err with
  | some x =>
    obtain ⟨a, e⟩ := x
    rw [he] at hgo
    simp only [Option.isNone_some, Bool.false_and, Bool.false_eq_true, if_false] at hgo
    subst hgo
    simp only [he]
    simp only [pA, he, eA]
    repeat' (first | (with_reducible refine hY _ ?_; clear hY Y) | ((with_reducible first | refine aD rfl (aN fun K' hK' => ab ?_) | refine hK' _ (ac fun Y hY => ab ?_) | refine bV rfl (ac fun Y hY => ab ?_) | refine ac fun Y hY => ab ?_ | refine ae tk0 aU (ac fun Y hY => ab ?_) | refine ab ?_ | refine av ?_ | refine dg rfl (dp fun K' hK' => ab ?_) | refine hK' _ _ (ac fun Y hY => ab ?_)); (try clear hK' K'); (try dsimp only [aop]); try simp only [go_sem, ↓reduceIte, Nat.reduceEqDiff, Nat.reduceLT, Nat.reduceLeDiff, Nat.reduceAdd, Nat.reduceSub, Nat.reduceMul, Nat.reduceBEq, Nat.reduceBNe, Nat.reducePow, Int.reduceToNat, Int.reduceLE, Int.reduceLT, Int.reduceMul, Int.reduceEq, Int.reducePow, Int.reduceAdd, Int.reduceSub, Int.reduceNeg, reduceCtorEq, aU, Tryd.results6]) | (with_reducible first | refine aj ?_ | refine bW rfl ?_ | refine fa ?_ ?_ | refine ar ?_ | refine au ?_ | refine aT fun K hK => ?_ | refine aK ?_ | refine aC ?_ | refine b3 ?_ | refine bA ?_ | refine bG ?_ | refine aF ?_ | refine bH ?_ | refine cn ?_ | refine gT fun K hK => ?_) | (with_reducible refine hK _ ?_; clear hK K) | (with_reducible refine hK _ _ ?_ ?_; (· kernel_rfl); clear hK K) | ((with_reducible first | refine bh ?_ ?_ | refine al ?_ ?_); (· decide)) | (with_reducible refine cj tk0 aU ?_ ?_; (· kernel_rfl)))
    all_goals first | rfl | exact ⟨rfl, rfl⟩
  | none =>
    rw [he] at hgo
    simp only [Option.isNone_none, Bool.true_and] at hgo
    by_cases hl : s1.l = []
    · rw [hl] at hgo
      simp only [List.isEmpty_nil, Bool.not_true, Bool.false_eq_true, if_false] at hgo
      subst hgo
      simp only [he]
      have hl0 : s1.l.length = 0 := by rw [hl]; rfl
      simp only [pA, he, b8, hl0]
      repeat' (first | (with_reducible refine hY _ ?_; clear hY Y) | ((with_reducible first | refine aD rfl (aN fun K' hK' => ab ?_) | refine hK' _ (ac fun Y hY => ab ?_) | refine bV rfl (ac fun Y hY => ab ?_) | refine ac fun Y hY => ab ?_ | refine aN fun K' hK' => ab ?_ | refine ae tk0 aU (ac fun Y hY => ab ?_) | refine ab ?_ | refine av ?_); (try clear hK' K'); (try dsimp only [aop]); try simp only [go_sem, ↓reduceIte, Nat.reduceEqDiff, Nat.reduceLT, Nat.reduceLeDiff, Nat.reduceAdd, Nat.reduceSub, Nat.reduceMul, Nat.reduceBEq, Nat.reduceBNe, Nat.reducePow, Int.reduceToNat, Int.reduceLE, Int.reduceLT, Int.reduceMul, Int.reduceEq, Int.reducePow, Int.reduceAdd, Int.reduceSub, Int.reduceNeg, reduceCtorEq, aU, Tryd.results6]) | (with_reducible first | refine aj ?_ | refine bl ?_ | refine ar ?_ | refine au ?_ | refine aT fun K hK => ?_ | refine aC ?_ | refine b3 ?_ | refine bG ?_ | refine aP ?_ | refine aF ?_ | refine bH ?_) | (with_reducible refine hK _ ?_; clear hK K) | ((with_reducible first | refine bh ?_ ?_ | refine al ?_ ?_); (· decide)) | ((with_reducible refine dK (fun hc => ?_) (fun hc => ?_)) <;> (try simp only [decide_eq_true_eq, decide_eq_false_iff_not, Bool.not_true, Bool.not_false, Bool.not_eq_true', Bool.not_eq_false'] at hc) <;> (try (exfalso; omega))) | (with_reducible refine bE (cP) ?_) | (with_reducible refine bE (fR) ?_))
      all_goals first | rfl | exact ⟨rfl, rfl⟩
    · have hl1 : s1.l.isEmpty = false := by simpa using hl
      have hl0 : ((0 : Int) < (s1.l.length : Int)) = True := eq_true (by have := List.length_pos_iff.2 hl; omega)
      rw [hl1] at hgo
      simp only [Bool.not_false, if_true] at hgo
      have h2 := ta s1
      have hm2 := ru he
      generalize s1.proc = q at *
      obtain ⟨⟨pn, pp, pg, ⟨ak, ⟨ack, ace, acks⟩, ⟨aek, aen, aex, aeks⟩, ⟨avk, avn, avx, avks⟩, af, an, aks⟩, ⟨bk, ⟨bck, bce, bcks⟩, ⟨bek, ben, bex, beks⟩, ⟨bvk, bvn, bvx, bvks⟩, bf, bn, bks⟩, bd⟩, s3⟩ := q
      simp only [pcW, asA, coA, exA, List.cons_append, List.nil_append] at h2 hgo hm2
      simp only [pA, he, b8] at h2 ⊢
      repeat' (first | (with_reducible refine hY _ ?_; clear hY Y) | ((with_reducible first | refine aD rfl (aN fun K' hK' => ab ?_) | refine hK' _ (ac fun Y hY => ab ?_) | refine bV rfl (ac fun Y hY => ab ?_) | refine ac fun Y hY => ab ?_ | refine aN fun K' hK' => ab ?_ | refine ae tk0 aU (ac fun Y hY => ab ?_) | refine ab ?_ | refine dg rfl (dp fun K' hK' => ab ?_) | refine hK' _ _ (ac fun Y hY => ab ?_)); (try clear hK' K'); (try dsimp only [aop]); try simp only [go_sem, ↓reduceIte, Nat.reduceEqDiff, Nat.reduceLT, Nat.reduceLeDiff, Nat.reduceAdd, Nat.reduceSub, Nat.reduceMul, Nat.reduceBEq, Nat.reduceBNe, Nat.reducePow, Int.reduceToNat, Int.reduceLE, Int.reduceLT, Int.reduceMul, Int.reduceEq, Int.reducePow, Int.reduceAdd, Int.reduceSub, Int.reduceNeg, reduceCtorEq, aU, Tryd.results6, hl0, iY]) | (with_reducible first | refine aj ?_ | refine bl ?_ | refine ar ?_ | refine au ?_ | refine aT fun K hK => ?_ | refine aK ?_ | refine a8 ?_ | refine ax ?_ | refine aP ?_ | refine cn ?_ | refine gT fun K hK => ?_) | (with_reducible refine hK _ ?_; clear hK K) | (with_reducible refine hK _ _ ?_ ?_; (· kernel_rfl); clear hK K) | ((with_reducible first | refine bh ?_ ?_ | refine al ?_ ?_); (· decide)) | (with_reducible refine cj tk0 aU ?_ ?_; (· kernel_rfl)) | (with_reducible refine bT ?_ ?_; (· (try and_intros) <;> first | omega | assumption | (simp only [List.length_append, List.length_map, List.length_cons, List.length_nil] <;> omega))) | (with_reducible refine aa (h2) ?_) | (with_reducible refine bE (cP) ?_))
      refine bI [2, 6, 7] (by simp only [go_sem, ↓reduceIte, Nat.reduceEqDiff, Nat.reduceLT, Nat.reduceLeDiff, Nat.reduceAdd, Nat.reduceSub, Nat.reduceMul, Nat.reduceBEq, Nat.reduceBNe, Nat.reducePow, Int.reduceToNat, Int.reduceLE, Int.reduceLT, Int.reduceMul, Int.reduceEq, Int.reducePow, Int.reduceAdd, Int.reduceSub, Int.reduceNeg, reduceCtorEq]; exact rfl) ?_
      refine et (ih (f, _, s3) ⟨hgo, by simp only; omega, (by simp only [List.length_append, List.length_cons, List.length_nil]; omega)⟩ (by simp only; omega)) ?_
      simp only [mv, d9, pcW, asA, coA, exA, List.cons_append, List.nil_append, List.append_nil, List.length_append, List.length_cons, List.length_nil]
end Go.Proofs.YtpkcgdikbjaoaaaDoor
