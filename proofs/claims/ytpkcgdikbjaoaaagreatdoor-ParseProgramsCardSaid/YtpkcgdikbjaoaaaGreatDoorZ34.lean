/- The document's reader in K: programs. -/
import Derived.Test.YtpkcgdikbjaoaaaGreatDoorZ31
import Derived.Test.YtpkcgdikbjaoaaaGreatDoorZ33
import Derived.Test.YtpkcgdikbjaoaaaGreatDoorZ25
namespace Go.Proofs.YtpkcgdikbjaoaaaGreatDoor
set_option linter.unusedSimpArgs false
set_option linter.unusedVariables false
open Go.RowKit
def oM (l : Wd) : AV :=
  if (cX l).2.1 = 0 then
    if (gT l).2.bad = 0 then .tup [.agg [.sl (fU (gT l).1) (gT l).1.length .none], inA 0, inA (-1)]
    else .tup [.agg [.sl [] 0 .full], inA ((gT l).2.bad : Int), inA (gT l).2.at0]
  else .tup [.agg [.sl [] 0 .full], inA ((cX l).2.1 : Int), inA (cX l).2.2]
def bz : Nat → List Nat
  | 0 => [0]
  | 1 => [0, 2]
  | 2 => [0, 2, 5, 6, 7]
  | 3 => [2, 6, 7]
  | 4 => [0, 2, 5]
  | 5 => [2, 5, 8]
  | 6 => [2, 5, 8, 9]
  | 7 => [2, 5, 8, 9]
  | 8 => [2, 5, 8, 9, 10]
  | 9 => [2, 5, 8, 9, 10]
  | 10 => [2, 5, 8, 9, 10]
  | 11 => [2, 5, 8, 9, 10]
  | 12 => [2, 5, 8, 9, 10]
  | 13 => [2, 5, 8, 9, 10]
  | 14 => [2, 5, 8, 9, 10]
  | 15 => [2, 5, 8, 9, 10]
  | 16 => [2, 5, 8, 9, 10]
  | 17 => [2, 5, 8, 9, 10]
  | 18 => [2, 5, 8, 9, 10]
  | 19 => [2, 5, 8, 9, 10]
  | 20 => [2, 5, 8, 9, 10]
  | 21 => [2, 8, 9]
  | 22 => [2, 8]
  | 23 => [2, 9]
  | _ => []
set_option maxRecDepth 100000 in
set_option maxHeartbeats 16000000 in
theorem uU (l : Wd) : AFn Tryz.prog 7 [bs l] [] (oM l) [] := by
  have h1 := xZ l
  unfold oM
  unfold yo at h1
  by_cases hz : (cX l).2.1 = 0
  case neg =>
    rw [if_neg hz] at h1 ⊢
    have hz' : (((cX l).2.1 : Int) = 0) = False := eq_false (by omega)
    generalize cX l = R at *
    obtain ⟨ts, e, a⟩ := R
    simp only at h1 hz' ⊢
    refine aK [] Tryz.func7 rfl Tryz.ntmps7 (Nat.le_of_ble_eq_true rfl) (Nat.le_of_ble_eq_true rfl) fun w0 G0 B0 Pr hB0 => ?_
    simp only [aQ, aI, List.cons_append, List.nil_append]
    repeat' (first | (with_reducible refine hY _ ?_; clear hY Y) | ((with_reducible first | refine av rfl (aD fun K' hK' => ab ?_) | refine hK' _ (ac fun Y hY => ab ?_) | refine ac fun Y hY => ab ?_ | refine ae tk0 bz (ac fun Y hY => ab ?_) | refine ab ?_ | refine ap ?_); (try clear hK' K'); (try dsimp only [aop]); try simp only [go_sem, ↓reduceIte, Nat.reduceEqDiff, Nat.reduceLT, Nat.reduceLeDiff, Nat.reduceAdd, Nat.reduceSub, Nat.reduceMul, Nat.reduceBEq, Nat.reduceBNe, Nat.reducePow, Int.reduceToNat, Int.reduceLE, Int.reduceLT, Int.reduceMul, Int.reduceEq, Int.reducePow, Int.reduceAdd, Int.reduceSub, Int.reduceNeg, reduceCtorEq, bz, Tryz.results7, hz']) | (with_reducible first | refine ai ?_ | refine al ?_ | refine am ?_ | refine aL fun K hK => ?_ | refine ax ?_ | refine bg ?_ | refine az ?_) | (with_reducible refine hK _ ?_; clear hK K) | ((with_reducible refine ah ?_ ?_); (· decide)) | (with_reducible refine aa (h1) ?_))
    all_goals first | rfl | exact ⟨rfl, rfl⟩
  rw [if_pos hz] at h1 ⊢
  rw [hz] at h1
  unfold gT
  have e1 : (iy l).l = (cX l).1 ∧ (iy l).end0 = (l.length : Int) ∧ (iy l).i = 0 ∧ (iy l).depth = 0 ∧ (iy l).bad = 0 ∧ (iy l).at0 = 0 := ⟨rfl, rfl, rfl, rfl, rfl, rfl⟩
  obtain ⟨e1, e2, e3, e4, e5, e6⟩ := e1
  rw [← e1] at h1
  generalize iy l = s0 at *
  generalize (cX l).2.2 = sp at *
  obtain ⟨R, hR⟩ : ∃ R, R = gS FU [] s0 := ⟨_, rfl⟩
  rw [← hR]
  have hm0 := fS s0
  obtain ⟨T, hT⟩ : ∃ T, T = s0.l := ⟨_, rfl⟩
  rw [← hT] at h1
  refine aK [] Tryz.func7 rfl Tryz.ntmps7 (Nat.le_of_ble_eq_true rfl) (Nat.le_of_ble_eq_true rfl) fun w0 G0 B0 Pr hB0 => ?_
  simp only [aQ, aI, List.cons_append, List.nil_append]
  repeat' (first | (with_reducible refine hY _ ?_; clear hY Y) | ((with_reducible first | refine av rfl (aD fun K' hK' => ab ?_) | refine hK' _ (ac fun Y hY => ab ?_) | refine ac fun Y hY => ab ?_ | refine ae tk0 bz (ac fun Y hY => ab ?_) | refine ab ?_); (try clear hK' K'); (try dsimp only [aop]); try simp only [go_sem, ↓reduceIte, Nat.reduceEqDiff, Nat.reduceLT, Nat.reduceLeDiff, Nat.reduceAdd, Nat.reduceSub, Nat.reduceMul, Nat.reduceBEq, Nat.reduceBNe, Nat.reducePow, Int.reduceToNat, Int.reduceLE, Int.reduceLT, Int.reduceMul, Int.reduceEq, Int.reducePow, Int.reduceAdd, Int.reduceSub, Int.reduceNeg, reduceCtorEq, bz, Tryz.results7]) | (with_reducible first | refine ai ?_ | refine al ?_ | refine am ?_ | refine aL fun K hK => ?_ | refine aq ?_ | refine aC ?_ | refine bx ?_) | (with_reducible refine hK _ ?_; clear hK K) | ((with_reducible refine ah ?_ ?_); (· decide)) | ((with_reducible refine bV (fun hc => ?_) (fun hc => ?_)) <;> (try simp only [decide_eq_true_eq, decide_eq_false_iff_not, Bool.not_true, Bool.not_false, Bool.not_eq_true', Bool.not_eq_false'] at hc) <;> (try (exfalso; omega))) | (with_reducible refine aa (h1) ?_))
  refine fw (mz (b := 10077) (k0 := 10009) (i := 0) 48 (by decide) (by decide) (by decide) rfl rfl rfl) ?_
  refine cw (α := Nat × List Pc × RS) (fun p => [(2, .loc 10002 0), (5, .sl (T.flatMap ee) T.length .none), (8, .loc 10026 0), (9, .loc 10009 0), (10002, .bc [.sl [] 0 .full] 25), (10009, .bc [.sl (fU p.2.1) p.2.1.length (.tok 10077)] 25), (10026, rA p.2.2), (10077, .bt p.2.1.length 48)])
    (fun p => gS p.1 p.2.1 p.2.2 = R ∧ p.2.2.mu < p.1 ∧ p.2.1.length + p.1 ≤ 80000 ∧ p.2.2.l = T) (fun p => p.1) (FU, [], s0) [2, 5, 8, 9] ?_ ⟨hR.symm, hm0, (by simp [FU]), hT.symm⟩ ?_
  · simp only [go_sem, ↓reduceIte, Nat.reduceEqDiff, Nat.reduceLT, Nat.reduceLeDiff, Nat.reduceAdd, Nat.reduceSub, Nat.reduceMul, Nat.reduceBEq, Nat.reduceBNe, Nat.reducePow, Int.reduceToNat, Int.reduceLE, Int.reduceLT, Int.reduceMul, Int.reduceEq, Int.reducePow, Int.reduceAdd, Int.reduceSub, Int.reduceNeg, reduceCtorEq, rA, e2, e3, e4, e5, e6, ← hT] <;> rfl
  rintro ⟨f, out, r⟩ ⟨hgo, hmf, hlen, hlT⟩ ih
  simp only at ih hgo hmf hlen hlT ⊢
  clear hR h1 e1 e2 e3 e4 e5 e6 hm0 hT
  obtain ⟨f, rfl⟩ : ∃ f', f = f' + 1 := ⟨f - 1, by omega⟩
  rw [gS] at hgo
  by_cases hb : r.bad = 0
  case neg =>
    rw [if_neg (fun h => hb h.1)] at hgo
    subst hgo
    have hb' : ((r.bad : Int) = 0) = False := eq_false (by omega)
    simp only
    rw [if_neg hb]
    repeat' (first | (with_reducible refine hY _ ?_; clear hY Y) | ((with_reducible first | refine av rfl (aD fun K' hK' => ab ?_) | refine hK' _ (ac fun Y hY => ab ?_) | refine bR rfl (ac fun Y hY => ab ?_) | refine ac fun Y hY => ab ?_ | refine ae tk0 bz (ac fun Y hY => ab ?_) | refine ab ?_ | refine ap ?_ | refine bY rfl (bI fun K' hK' => ab ?_) | refine hK' _ _ (ac fun Y hY => ab ?_)); (try clear hK' K'); (try dsimp only [aop]); try simp only [go_sem, ↓reduceIte, Nat.reduceEqDiff, Nat.reduceLT, Nat.reduceLeDiff, Nat.reduceAdd, Nat.reduceSub, Nat.reduceMul, Nat.reduceBEq, Nat.reduceBNe, Nat.reducePow, Int.reduceToNat, Int.reduceLE, Int.reduceLT, Int.reduceMul, Int.reduceEq, Int.reducePow, Int.reduceAdd, Int.reduceSub, Int.reduceNeg, reduceCtorEq, bz, Tryz.results7, hb']) | (with_reducible first | refine ai ?_ | refine bj rfl ?_ | refine dk ?_ ?_ | refine al ?_ | refine am ?_ | refine aL fun K hK => ?_ | refine ax ?_ | refine ar ?_ | refine bN ?_ | refine bg ?_ | refine bo ?_ | refine az ?_ | refine bq ?_ | refine bl ?_ | refine dq fun K hK => ?_) | (with_reducible refine hK _ ?_; clear hK K) | (with_reducible refine hK _ _ ?_ ?_; (· kernel_rfl); clear hK K) | ((with_reducible first | refine aR ?_ ?_ | refine ah ?_ ?_); (· decide)) | (with_reducible refine bm tk0 bz ?_ ?_; (· kernel_rfl)))
    all_goals first | rfl | exact ⟨rfl, rfl⟩
  have hb' : ((r.bad : Int) = 0) = True := eq_true (by omega)
  by_cases hi : r.i < r.l.length
  case neg =>
    rw [if_neg (fun h => hi h.2)] at hgo
    subst hgo
    have hi' : ((r.i : Int) < (T.length : Int)) = False := eq_false (by rw [hlT] at hi; omega)
    simp only
    rw [if_pos hb]
    repeat' (first | (with_reducible refine hY _ ?_; clear hY Y) | ((with_reducible first | refine av rfl (aD fun K' hK' => ab ?_) | refine hK' _ (ac fun Y hY => ab ?_) | refine bR rfl (ac fun Y hY => ab ?_) | refine ac fun Y hY => ab ?_ | refine aD fun K' hK' => ab ?_ | refine ae tk0 bz (ac fun Y hY => ab ?_) | refine ab ?_ | refine ap ?_); (try clear hK' K'); (try dsimp only [aop]); try simp only [go_sem, ↓reduceIte, Nat.reduceEqDiff, Nat.reduceLT, Nat.reduceLeDiff, Nat.reduceAdd, Nat.reduceSub, Nat.reduceMul, Nat.reduceBEq, Nat.reduceBNe, Nat.reducePow, Int.reduceToNat, Int.reduceLE, Int.reduceLT, Int.reduceMul, Int.reduceEq, Int.reducePow, Int.reduceAdd, Int.reduceSub, Int.reduceNeg, reduceCtorEq, bz, Tryz.results7, hb', hi']) | (with_reducible first | refine ai ?_ | refine aS ?_ | refine al ?_ | refine am ?_ | refine aL fun K hK => ?_ | refine ar ?_ | refine bN ?_ | refine bo ?_ | refine aC ?_ | refine az ?_ | refine bq ?_) | (with_reducible refine hK _ ?_; clear hK K) | ((with_reducible first | refine aR ?_ ?_ | refine ah ?_ ?_); (· decide)))
    all_goals first | rfl | exact ⟨rfl, rfl⟩
  rw [if_pos ⟨hb, hi⟩] at hgo
  have hi' : ((r.i : Int) < (T.length : Int)) = True := eq_true (by rw [hlT] at hi; omega)
  have hm2 := u0 hb
  have hkl := (xy r).trans hlT
  have h1 := dm r [112, 114, 111, 99] (by simp)
  unfold RS.proc at hgo hm2 hkl
  simp only at hgo hm2 hkl
  generalize r.eat [112, 114, 111, 99] = r1 at *
  have h2 := fq r1 1 (by decide)
  generalize r1.text 1 = q1 at *
  obtain ⟨x, r2⟩ := q1
  have h3 := dm r2 [40] (by simp)
  simp only at h2 h3 hgo hm2 hkl
  generalize r2.eat [40] = r3 at *
  have h4 := oR r3 0
  generalize r3.names 0 = q2 at *
  obtain ⟨ps, r4⟩ := q2
  have h5 := dm r4 [59] (by simp)
  simp only at h4 h5 hgo hm2 hkl
  generalize r4.eat [59] = r5 at *
  have h6 := oR r5 0
  generalize r5.names 0 = q3 at *
  obtain ⟨gs, r6⟩ := q3
  have h7 := dm r6 [41] (by simp)
  simp only at h6 h7 hgo hm2 hkl
  generalize r6.eat [41] = r7 at *
  have h8 := dm r7 [114, 101, 113, 117, 105, 114, 101, 115] (by simp)
  generalize r7.eat [114, 101, 113, 117, 105, 114, 101, 115] = r8 at *
  have h9 := pB r8
  generalize fj r8 = q4 at *
  obtain ⟨⟨ak, ⟨ack, ace, acks⟩, ⟨aek, aen, aex, aeks⟩, ⟨avk, avn, avx, avks⟩, af, an, aks⟩, r9⟩ := q4
  have h10 := dm r9 [101, 110, 115, 117, 114, 101, 115] (by simp)
  simp only at h9 h10 hgo hm2 hkl
  generalize r9.eat [101, 110, 115, 117, 114, 101, 115] = r10 at *
  have h11 := pB r10
  generalize fj r10 = q5 at *
  obtain ⟨⟨bk, ⟨bck, bce, bcks⟩, ⟨bek, ben, bex, beks⟩, ⟨bvk, bvn, bvx, bvks⟩, bf, bn, bks⟩, r11⟩ := q5
  have h12 := uA r11
  simp only at h11 h12 hgo hm2 hkl
  generalize gP r11 = q6 at *
  obtain ⟨bd, r12⟩ := q6
  simp only at h12 hgo hm2 hkl
  simp only [asA, coA, exA, List.cons_append, List.nil_append] at h9 h11
  repeat' (first | (with_reducible refine hY _ ?_; clear hY Y) | ((with_reducible first | refine av rfl (aD fun K' hK' => ab ?_) | refine hK' _ (ac fun Y hY => ab ?_) | refine bR rfl (ac fun Y hY => ab ?_) | refine ac fun Y hY => ab ?_ | refine aD fun K' hK' => ab ?_ | refine ae tk0 bz (ac fun Y hY => ab ?_) | refine ab ?_); (try clear hK' K'); (try dsimp only [aop]); try simp only [go_sem, ↓reduceIte, Nat.reduceEqDiff, Nat.reduceLT, Nat.reduceLeDiff, Nat.reduceAdd, Nat.reduceSub, Nat.reduceMul, Nat.reduceBEq, Nat.reduceBNe, Nat.reducePow, Int.reduceToNat, Int.reduceLE, Int.reduceLT, Int.reduceMul, Int.reduceEq, Int.reducePow, Int.reduceAdd, Int.reduceSub, Int.reduceNeg, reduceCtorEq, bz, Tryz.results7, hb', hi', kr]) | (with_reducible first | refine ai ?_ | refine aS ?_ | refine al ?_ | refine am ?_ | refine aL fun K hK => ?_ | refine ax ?_ | refine aO ?_ | refine aq ?_ | refine aC ?_) | (with_reducible refine hK _ ?_; clear hK K) | ((with_reducible first | refine aR ?_ ?_ | refine ah ?_ ?_); (· decide)) | (with_reducible refine bQ ?_ ?_; (· (try and_intros) <;> first | omega | assumption | (simp only [List.length_append, List.length_map, List.length_cons, List.length_nil] <;> omega))) | (with_reducible refine aa (h1) ?_) | (with_reducible refine aa (h2) ?_) | (with_reducible refine aa (h3) ?_) | (with_reducible refine aa (h4) ?_) | (with_reducible refine aa (h5) ?_) | (with_reducible refine aa (h6) ?_) | (with_reducible refine aa (h7) ?_) | (with_reducible refine aa (h8) ?_) | (with_reducible refine aa (h9) ?_) | (with_reducible refine aa (h10) ?_) | (with_reducible refine aa (h11) ?_) | (with_reducible refine aa (h12) ?_))
  refine bA [2, 5, 8, 9] (by simp only [go_sem, ↓reduceIte, Nat.reduceEqDiff, Nat.reduceLT, Nat.reduceLeDiff, Nat.reduceAdd, Nat.reduceSub, Nat.reduceMul, Nat.reduceBEq, Nat.reduceBNe, Nat.reducePow, Int.reduceToNat, Int.reduceLE, Int.reduceLT, Int.reduceMul, Int.reduceEq, Int.reducePow, Int.reduceAdd, Int.reduceSub, Int.reduceNeg, reduceCtorEq]; exact rfl) ?_
  refine dw (ih (f, _, r12) ⟨hgo, by simp only; omega, (by simp only [List.length_append, List.length_cons, List.length_nil]; omega), hkl⟩ (by simp only; omega)) ?_
  simp only [mO, fU, pcW, asA, coA, exA, List.cons_append, List.nil_append, List.append_nil, List.length_append, List.length_cons, List.length_nil]
end Go.Proofs.YtpkcgdikbjaoaaaGreatDoor
