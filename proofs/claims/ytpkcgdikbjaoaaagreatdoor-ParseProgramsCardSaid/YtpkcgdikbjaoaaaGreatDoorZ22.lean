/- The parser in K: procedures, programs. -/
import Derived.Test.YtpkcgdikbjaoaaaGreatDoorZ20
import Derived.Test.YtpkcgdikbjaoaaaGreatDoorZ21
namespace Go.Proofs.YtpkcgdikbjaoaaaGreatDoor
set_option linter.unusedSimpArgs false
set_option linter.unusedVariables false
open Go.RowKit
theorem yz (s : PS) (w1 w2 : Wd) : AFn Tryz.prog 29 [.loc 20000 0, .sl [bs w1, bs w2] 2 .full] [pA s] (.tup []) [pA (s.due [w1, w2])] := nS s [w1, w2] .full (by simp)
def et : Nat → List Nat
  | 0 => [0]
  | 1 => [0, 2]
  | 2 => [0, 2]
  | 3 => [0, 2, 3]
  | 4 => [0, 2, 3]
  | 5 => [0, 2, 3]
  | 6 => [0, 2, 3]
  | 7 => [0, 2, 3]
  | 8 => [0, 2, 3]
  | 9 => [0, 2, 3]
  | 10 => [0, 2, 3]
  | 11 => [0, 2, 3]
  | 12 => [2, 3]
  | _ => []
set_option maxRecDepth 100000 in
set_option maxHeartbeats 8000000 in
theorem zj (s : PS) : AFn Tryz.prog 12 [.loc 20000 0] [pA s] (.agg (pcW s.proc.1)) [pA s.proc.2] := by
  unfold PS.proc
  simp only
  have h1 := dl s [112, 114, 111, 99]
  generalize s.due [[112, 114, 111, 99]] = s1 at *
  have h2 := iF s1
  generalize s1.word 1 = q1 at *
  obtain ⟨x, s2⟩ := q1
  have h3 := dl s2 [40]
  simp only at h2 h3 ⊢
  generalize s2.due [[40]] = s3 at *
  have h4 := sE s3 [59]
  generalize s3.names [59] = q2 at *
  obtain ⟨ps, s4⟩ := q2
  have h5 := dl s4 [59]
  simp only at h4 h5 ⊢
  generalize s4.due [[59]] = s5 at *
  have h6 := sE s5 [41]
  generalize s5.names [41] = q3 at *
  obtain ⟨gs, s6⟩ := q3
  have h7 := yz s6 [41] [114, 101, 113, 117, 105, 114, 101, 115]
  simp only at h6 h7 ⊢
  generalize s6.due [[41], [114, 101, 113, 117, 105, 114, 101, 115]] = s7 at *
  have h8 := rG s7
  generalize iX s7 = q4 at *
  obtain ⟨⟨ak, ⟨ack, ace, acks⟩, ⟨aek, aen, aex, aeks⟩, ⟨avk, avn, avx, avks⟩, af, an, aks⟩, s8⟩ := q4
  have h9 := dl s8 [101, 110, 115, 117, 114, 101, 115]
  simp only at h8 h9 ⊢
  generalize s8.due [[101, 110, 115, 117, 114, 101, 115]] = s9 at *
  have h10 := rG s9
  generalize iX s9 = q5 at *
  obtain ⟨⟨bk, ⟨bck, bce, bcks⟩, ⟨bek, ben, bex, beks⟩, ⟨bvk, bvn, bvx, bvks⟩, bf, bn, bks⟩, s10⟩ := q5
  have h11 := xo s10
  simp only at h10 h11 ⊢
  generalize gZ s10 = q6 at *
  simp only [asA, coA, exA, List.cons_append, List.nil_append] at h8 h10
  refine aK [] Tryz.func12 rfl Tryz.ntmps12 (Nat.le_of_ble_eq_true rfl) (Nat.le_of_ble_eq_true rfl) fun w0 G0 B0 Pr hB0 => ?_
  simp only [aQ, aI, List.cons_append, List.nil_append]
  repeat' (first | (with_reducible refine hY _ ?_; clear hY Y) | ((with_reducible first | refine av rfl (aD fun K' hK' => ab ?_) | refine hK' _ (ac fun Y hY => ab ?_) | refine ae tk0 et (ac fun Y hY => ab ?_) | refine ab ?_ | refine ap ?_); (try clear hK' K'); (try dsimp only [aop]); try simp only [go_sem, ↓reduceIte, Nat.reduceEqDiff, Nat.reduceLT, Nat.reduceLeDiff, Nat.reduceAdd, Nat.reduceSub, Nat.reduceMul, Nat.reduceBEq, Nat.reduceBNe, Nat.reducePow, Int.reduceToNat, Int.reduceLE, Int.reduceLT, Int.reduceMul, Int.reduceEq, Int.reducePow, Int.reduceAdd, Int.reduceSub, Int.reduceNeg, reduceCtorEq, et, Tryz.results12]) | (with_reducible first | refine ai ?_ | refine al ?_ | refine am ?_ | refine aL fun K hK => ?_ | refine az ?_) | (with_reducible refine hK _ ?_; clear hK K) | (with_reducible refine aa (h1) ?_) | (with_reducible refine aa (h2) ?_) | (with_reducible refine aa (h3) ?_) | (with_reducible refine aa (h4) ?_) | (with_reducible refine aa (h5) ?_) | (with_reducible refine aa (h6) ?_) | (with_reducible refine aa (h7) ?_) | (with_reducible refine aa (h8) ?_) | (with_reducible refine aa (h9) ?_) | (with_reducible refine aa (h10) ?_) | (with_reducible refine aa (h11) ?_))
  all_goals first | rfl | exact ⟨rfl, rfl⟩
def oS (l : Wd) : AV :=
  if (cX l).2.1 = 0 then
    match (dG l).2.err with
    | none => .tup [.agg [.sl (fU (dG l).1) (dG l).1.length .none], .c .nilIface]
    | some x => .tup [.agg [.sl [] 0 .full], i3 (some x)]
  else .tup [.agg [.sl [] 0 .full], lE (cX l).2.1 (cX l).2.2]
def bG : Nat → List Nat
  | 0 => [0]
  | 1 => [0, 2]
  | 2 => [0, 2, 4, 5]
  | 3 => [2, 5]
  | 4 => [0, 2, 4]
  | 5 => [2, 6]
  | 6 => [2, 6, 7]
  | 7 => [2, 6, 7]
  | 8 => [2, 6, 7]
  | 9 => [2, 6]
  | 10 => [2, 7]
  | _ => []
set_option maxRecDepth 100000 in
set_option maxHeartbeats 8000000 in
theorem pI (l : Wd) : AFn Tryz.prog 6 [bs l] [] (oS l) [] := by
  have h1 := y5 l
  unfold oS
  unfold wb at h1
  by_cases hz : (cX l).2.1 = 0
  case neg =>
    rw [if_neg hz] at h1 ⊢
    unfold lE at h1 ⊢
    generalize cX l = R at *
    obtain ⟨ts, e, a⟩ := R
    simp only at h1 hz ⊢
    by_cases ha : a < 0 ∨ e = 0
    · rw [if_pos ha] at h1 ⊢
      rw [eA hz] at h1 ⊢
      refine aK [] Tryz.func6 rfl Tryz.ntmps6 (Nat.le_of_ble_eq_true rfl) (Nat.le_of_ble_eq_true rfl) fun w0 G0 B0 Pr hB0 => ?_
      simp only [aQ, aI, List.cons_append, List.nil_append]
      repeat' (first | (with_reducible refine hY _ ?_; clear hY Y) | ((with_reducible first | refine av rfl (aD fun K' hK' => ab ?_) | refine hK' _ (ac fun Y hY => ab ?_) | refine ac fun Y hY => ab ?_ | refine ae tk0 bG (ac fun Y hY => ab ?_) | refine ab ?_ | refine ap ?_); (try clear hK' K'); (try dsimp only [aop]); try simp only [go_sem, ↓reduceIte, Nat.reduceEqDiff, Nat.reduceLT, Nat.reduceLeDiff, Nat.reduceAdd, Nat.reduceSub, Nat.reduceMul, Nat.reduceBEq, Nat.reduceBNe, Nat.reducePow, Int.reduceToNat, Int.reduceLE, Int.reduceLT, Int.reduceMul, Int.reduceEq, Int.reducePow, Int.reduceAdd, Int.reduceSub, Int.reduceNeg, reduceCtorEq, bG, Tryz.results6]) | (with_reducible first | refine ai ?_ | refine al ?_ | refine am ?_ | refine aL fun K hK => ?_ | refine ax ?_ | refine bg ?_ | refine az ?_) | (with_reducible refine hK _ ?_; clear hK K) | ((with_reducible refine ah ?_ ?_); (· decide)) | (with_reducible refine aa (h1) ?_))
      all_goals first | rfl | exact ⟨rfl, rfl⟩
    · rw [if_neg ha] at h1 ⊢
      unfold jV at h1 ⊢
      refine aK [] Tryz.func6 rfl Tryz.ntmps6 (Nat.le_of_ble_eq_true rfl) (Nat.le_of_ble_eq_true rfl) fun w0 G0 B0 Pr hB0 => ?_
      simp only [aQ, aI, List.cons_append, List.nil_append]
      repeat' (first | (with_reducible refine hY _ ?_; clear hY Y) | ((with_reducible first | refine av rfl (aD fun K' hK' => ab ?_) | refine hK' _ (ac fun Y hY => ab ?_) | refine ac fun Y hY => ab ?_ | refine ae tk0 bG (ac fun Y hY => ab ?_) | refine ab ?_ | refine ap ?_); (try clear hK' K'); (try dsimp only [aop]); try simp only [go_sem, ↓reduceIte, Nat.reduceEqDiff, Nat.reduceLT, Nat.reduceLeDiff, Nat.reduceAdd, Nat.reduceSub, Nat.reduceMul, Nat.reduceBEq, Nat.reduceBNe, Nat.reducePow, Int.reduceToNat, Int.reduceLE, Int.reduceLT, Int.reduceMul, Int.reduceEq, Int.reducePow, Int.reduceAdd, Int.reduceSub, Int.reduceNeg, reduceCtorEq, bG, Tryz.results6]) | (with_reducible first | refine ai ?_ | refine al ?_ | refine am ?_ | refine aL fun K hK => ?_ | refine ax ?_ | refine bg ?_ | refine az ?_) | (with_reducible refine hK _ ?_; clear hK K) | ((with_reducible refine ah ?_ ?_); (· decide)) | (with_reducible refine aa (h1) ?_))
      all_goals first | rfl | exact ⟨rfl, rfl⟩
  rw [if_pos hz] at h1 ⊢
  unfold dG
  have e1 : (eS l).l = (cX l).1 ∧ (eS l).end0 = (l.length : Int) ∧ (eS l).depth = 0 ∧ (eS l).err = none := ⟨rfl, rfl, rfl, rfl⟩
  obtain ⟨e1, e2, e3, e4⟩ := e1
  rw [← e1] at h1
  generalize eS l = s0 at *
  obtain ⟨R, hR⟩ : ∃ R, R = dL FU [] s0 := ⟨_, rfl⟩
  rw [← hR]
  have hm0 := gH s0
  refine aK [] Tryz.func6 rfl Tryz.ntmps6 (Nat.le_of_ble_eq_true rfl) (Nat.le_of_ble_eq_true rfl) fun w0 G0 B0 Pr hB0 => ?_
  simp only [aQ, aI, List.cons_append, List.nil_append]
  repeat' (first | (with_reducible refine hY _ ?_; clear hY Y) | ((with_reducible first | refine av rfl (aD fun K' hK' => ab ?_) | refine hK' _ (ac fun Y hY => ab ?_) | refine ac fun Y hY => ab ?_ | refine ae tk0 bG (ac fun Y hY => ab ?_) | refine ab ?_); (try clear hK' K'); (try dsimp only [aop]); try simp only [go_sem, ↓reduceIte, Nat.reduceEqDiff, Nat.reduceLT, Nat.reduceLeDiff, Nat.reduceAdd, Nat.reduceSub, Nat.reduceMul, Nat.reduceBEq, Nat.reduceBNe, Nat.reducePow, Int.reduceToNat, Int.reduceLE, Int.reduceLT, Int.reduceMul, Int.reduceEq, Int.reducePow, Int.reduceAdd, Int.reduceSub, Int.reduceNeg, reduceCtorEq, bG, Tryz.results6]) | (with_reducible first | refine ai ?_ | refine al ?_ | refine am ?_ | refine aL fun K hK => ?_ | refine ar ?_ | refine aq ?_ | refine aC ?_ | refine bx ?_) | (with_reducible refine hK _ ?_; clear hK K) | ((with_reducible refine ah ?_ ?_); (· decide)) | (with_reducible refine aa (h1) ?_) | (with_reducible refine be (pE) ?_))
  refine fw (mz (b := 10040) (k0 := 10007) (i := 0) 48 (by decide) (by decide) (by decide) rfl rfl rfl) ?_
  refine cw (α := Nat × List Pc × PS) (fun p => [(2, .loc 10002 0), (6, .loc 10021 0), (7, .loc 10007 0), (10002, .bc [.sl [] 0 .full] 25), (10007, .bc [.sl (fU p.2.1) p.2.1.length (.tok 10040)] 25), (10021, pA p.2.2), (10040, .bt p.2.1.length 48)])
    (fun p => dL p.1 p.2.1 p.2.2 = R ∧ p.2.2.mu < p.1 ∧ p.2.1.length + p.1 ≤ 80000) (fun p => p.1) (FU, [], s0) [2, 6, 7] ?_ ⟨hR.symm, hm0, (by simp [FU])⟩ ?_
  · simp only [go_sem, ↓reduceIte, Nat.reduceEqDiff, Nat.reduceLT, Nat.reduceLeDiff, Nat.reduceAdd, Nat.reduceSub, Nat.reduceMul, Nat.reduceBEq, Nat.reduceBNe, Nat.reducePow, Int.reduceToNat, Int.reduceLE, Int.reduceLT, Int.reduceMul, Int.reduceEq, Int.reducePow, Int.reduceAdd, Int.reduceSub, Int.reduceNeg, reduceCtorEq, pA, e2, e3, e4, dB] <;> rfl
  rintro ⟨f, out, s1⟩ ⟨hgo, hmf, hlen⟩ ih
  simp only at ih hgo hmf hlen ⊢
  clear hR h1 e1 e2 e3 e4 hm0
  obtain ⟨f, rfl⟩ : ∃ f', f = f' + 1 := ⟨f - 1, by omega⟩
  rw [dL] at hgo
  cases he : s1.err with
  | some x =>
    obtain ⟨a, e⟩ := x
    rw [he] at hgo
    simp only [Option.isNone_some, Bool.false_and, Bool.false_eq_true, if_false] at hgo
    subst hgo
    simp only [he]
    simp only [pA, he, ie]
    repeat' (first | (with_reducible refine hY _ ?_; clear hY Y) | ((with_reducible first | refine av rfl (aD fun K' hK' => ab ?_) | refine hK' _ (ac fun Y hY => ab ?_) | refine bR rfl (ac fun Y hY => ab ?_) | refine ac fun Y hY => ab ?_ | refine ae tk0 bG (ac fun Y hY => ab ?_) | refine ab ?_ | refine ap ?_ | refine bY rfl (bI fun K' hK' => ab ?_) | refine hK' _ _ (ac fun Y hY => ab ?_)); (try clear hK' K'); (try dsimp only [aop]); try simp only [go_sem, ↓reduceIte, Nat.reduceEqDiff, Nat.reduceLT, Nat.reduceLeDiff, Nat.reduceAdd, Nat.reduceSub, Nat.reduceMul, Nat.reduceBEq, Nat.reduceBNe, Nat.reducePow, Int.reduceToNat, Int.reduceLE, Int.reduceLT, Int.reduceMul, Int.reduceEq, Int.reducePow, Int.reduceAdd, Int.reduceSub, Int.reduceNeg, reduceCtorEq, bG, Tryz.results6]) | (with_reducible first | refine ai ?_ | refine bj rfl ?_ | refine dk ?_ ?_ | refine al ?_ | refine am ?_ | refine aL fun K hK => ?_ | refine ax ?_ | refine ar ?_ | refine bN ?_ | refine bg ?_ | refine bo ?_ | refine az ?_ | refine bq ?_ | refine bl ?_ | refine dq fun K hK => ?_) | (with_reducible refine hK _ ?_; clear hK K) | (with_reducible refine hK _ _ ?_ ?_; (· kernel_rfl); clear hK K) | ((with_reducible first | refine aR ?_ ?_ | refine ah ?_ ?_); (· decide)) | (with_reducible refine bm tk0 bG ?_ ?_; (· kernel_rfl)))
    all_goals first | rfl | exact ⟨rfl, rfl⟩
  | none =>
    rw [he] at hgo
    simp only [Option.isNone_none, Bool.true_and] at hgo
    by_cases hl : s1.l = []
    · rw [hl] at hgo
      simp only [List.isEmpty_nil, Bool.not_true, Bool.false_eq_true, if_false] at hgo
      subst hgo
      simp only [he]
      have hl0 : s1.l.length = 0 := by rw [hl]; rfl
      simp only [pA, he, dB, hl0]
      repeat' (first | (with_reducible refine hY _ ?_; clear hY Y) | ((with_reducible first | refine av rfl (aD fun K' hK' => ab ?_) | refine hK' _ (ac fun Y hY => ab ?_) | refine bR rfl (ac fun Y hY => ab ?_) | refine ac fun Y hY => ab ?_ | refine aD fun K' hK' => ab ?_ | refine ae tk0 bG (ac fun Y hY => ab ?_) | refine ab ?_ | refine ap ?_); (try clear hK' K'); (try dsimp only [aop]); try simp only [go_sem, ↓reduceIte, Nat.reduceEqDiff, Nat.reduceLT, Nat.reduceLeDiff, Nat.reduceAdd, Nat.reduceSub, Nat.reduceMul, Nat.reduceBEq, Nat.reduceBNe, Nat.reducePow, Int.reduceToNat, Int.reduceLE, Int.reduceLT, Int.reduceMul, Int.reduceEq, Int.reducePow, Int.reduceAdd, Int.reduceSub, Int.reduceNeg, reduceCtorEq, bG, Tryz.results6]) | (with_reducible first | refine ai ?_ | refine aS ?_ | refine al ?_ | refine am ?_ | refine aL fun K hK => ?_ | refine ar ?_ | refine bN ?_ | refine bo ?_ | refine aC ?_ | refine az ?_ | refine bq ?_) | (with_reducible refine hK _ ?_; clear hK K) | ((with_reducible first | refine aR ?_ ?_ | refine ah ?_ ?_); (· decide)) | ((with_reducible refine bV (fun hc => ?_) (fun hc => ?_)) <;> (try simp only [decide_eq_true_eq, decide_eq_false_iff_not, Bool.not_true, Bool.not_false, Bool.not_eq_true', Bool.not_eq_false'] at hc) <;> (try (exfalso; omega))) | (with_reducible refine be (fb) ?_) | (with_reducible refine be (pE) ?_))
      all_goals first | rfl | exact ⟨rfl, rfl⟩
    · have hl1 : s1.l.isEmpty = false := by simpa using hl
      have hl0 : ((0 : Int) < (s1.l.length : Int)) = True := eq_true (by have := List.length_pos_iff.2 hl; omega)
      rw [hl1] at hgo
      simp only [Bool.not_false, if_true] at hgo
      have h2 := zj s1
      have hm2 := xX he
      generalize s1.proc = q at *
      obtain ⟨⟨pn, pp, pg, ⟨ak, ⟨ack, ace, acks⟩, ⟨aek, aen, aex, aeks⟩, ⟨avk, avn, avx, avks⟩, af, an, aks⟩, ⟨bk, ⟨bck, bce, bcks⟩, ⟨bek, ben, bex, beks⟩, ⟨bvk, bvn, bvx, bvks⟩, bf, bn, bks⟩, bd⟩, s3⟩ := q
      simp only [pcW, asA, coA, exA, List.cons_append, List.nil_append] at h2 hgo hm2
      simp only [pA, he, dB] at h2 ⊢
      repeat' (first | (with_reducible refine hY _ ?_; clear hY Y) | ((with_reducible first | refine av rfl (aD fun K' hK' => ab ?_) | refine hK' _ (ac fun Y hY => ab ?_) | refine bR rfl (ac fun Y hY => ab ?_) | refine ac fun Y hY => ab ?_ | refine aD fun K' hK' => ab ?_ | refine ae tk0 bG (ac fun Y hY => ab ?_) | refine ab ?_ | refine bY rfl (bI fun K' hK' => ab ?_) | refine hK' _ _ (ac fun Y hY => ab ?_)); (try clear hK' K'); (try dsimp only [aop]); try simp only [go_sem, ↓reduceIte, Nat.reduceEqDiff, Nat.reduceLT, Nat.reduceLeDiff, Nat.reduceAdd, Nat.reduceSub, Nat.reduceMul, Nat.reduceBEq, Nat.reduceBNe, Nat.reducePow, Int.reduceToNat, Int.reduceLE, Int.reduceLT, Int.reduceMul, Int.reduceEq, Int.reducePow, Int.reduceAdd, Int.reduceSub, Int.reduceNeg, reduceCtorEq, bG, Tryz.results6, hl0, kr]) | (with_reducible first | refine ai ?_ | refine aS ?_ | refine al ?_ | refine am ?_ | refine aL fun K hK => ?_ | refine ax ?_ | refine aO ?_ | refine aq ?_ | refine aC ?_ | refine bl ?_ | refine dq fun K hK => ?_) | (with_reducible refine hK _ ?_; clear hK K) | (with_reducible refine hK _ _ ?_ ?_; (· kernel_rfl); clear hK K) | ((with_reducible first | refine aR ?_ ?_ | refine ah ?_ ?_); (· decide)) | (with_reducible refine bm tk0 bG ?_ ?_; (· kernel_rfl)) | (with_reducible refine bQ ?_ ?_; (· (try and_intros) <;> first | omega | assumption | (simp only [List.length_append, List.length_map, List.length_cons, List.length_nil] <;> omega))) | (with_reducible refine aa (h2) ?_) | (with_reducible refine be (fb) ?_))
      refine bA [2, 6, 7] (by simp only [go_sem, ↓reduceIte, Nat.reduceEqDiff, Nat.reduceLT, Nat.reduceLeDiff, Nat.reduceAdd, Nat.reduceSub, Nat.reduceMul, Nat.reduceBEq, Nat.reduceBNe, Nat.reducePow, Int.reduceToNat, Int.reduceLE, Int.reduceLT, Int.reduceMul, Int.reduceEq, Int.reducePow, Int.reduceAdd, Int.reduceSub, Int.reduceNeg, reduceCtorEq]; exact rfl) ?_
      refine dw (ih (f, _, s3) ⟨hgo, by simp only; omega, (by simp only [List.length_append, List.length_cons, List.length_nil]; omega)⟩ (by simp only; omega)) ?_
      simp only [mO, fU, pcW, asA, coA, exA, List.cons_append, List.nil_append, List.append_nil, List.length_append, List.length_cons, List.length_nil]
end Go.Proofs.YtpkcgdikbjaoaaaGreatDoor
