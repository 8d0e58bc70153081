/- The parser in K: one condition. -/
import Derived.Test.YtpkcgdikbjaoaaaGreatDoorZ16
namespace Go.Proofs.YtpkcgdikbjaoaaaGreatDoor
set_option linter.unusedSimpArgs false
set_option linter.unusedVariables false
open Go.RowKit
theorem dv {s : PS} {w : Wd} (h : s.is w = true) : AFn Tryz.prog 60 [.loc 20000 0, bs w] [pA s] (.c (.bool true)) [pA s.drop] := by
  have h1 := jj s w
  unfold PS.take at h1
  rw [if_pos h] at h1
  exact h1
theorem dM {s : PS} {w : Wd} (h : s.is w = false) : AFn Tryz.prog 60 [.loc 20000 0, bs w] [pA s] (.c (.bool false)) [pA s] := by
  have h1 := jj s w
  unfold PS.take at h1
  rw [h] at h1
  exact h1
theorem j1 {s : PS} {w : Wd} (h : s.is w = true) : AFn Tryz.prog 63 [.loc 20000 0, bs w] [pA s] (.c (.bool true)) [pA s] := h ▸ lX s w
theorem kR {s : PS} {w : Wd} (h : s.is w = false) : AFn Tryz.prog 63 [.loc 20000 0, bs w] [pA s] (.c (.bool false)) [pA s] := h ▸ lX s w
def aY : Nat → List Nat
  | 0 => [0]
  | 1 => [0, 2]
  | 2 => [0, 2]
  | 3 => [0, 2]
  | 4 => [0, 2, 3]
  | 5 => [2, 3]
  | 6 => [0, 2]
  | 7 => [0, 2]
  | 8 => [0, 2]
  | 9 => [2]
  | 10 => [0, 2]
  | 11 => [2]
  | 12 => [0, 2]
  | 13 => [0, 2, 4]
  | 14 => [0, 2, 4, 5]
  | 15 => [0, 2, 4, 5]
  | 16 => [0, 2, 4, 5]
  | 17 => [0, 2, 4]
  | 18 => [0, 2, 4, 5]
  | 19 => [0, 2, 4]
  | 20 => [0, 2, 4, 5]
  | 21 => [0, 2, 4]
  | 22 => [0, 2, 4, 5]
  | 23 => [2, 4, 5, 6]
  | _ => []
set_option maxRecDepth 100000 in
set_option maxHeartbeats 8000000 in
theorem z6 {B : Nat} {g : PS → Co × PS} (hg : CoK 104 B g) (hmu : ∀ s, (g s).2.mu ≤ s.mu) : CoK 104 (B + 1) (l6 g) := by
  intro s hs
  unfold l6
  cases c1 : s.is [33]
  case true =>
    simp only [if_true]
    have h1 := j1 c1
    have h2 := nc s [33]
    have hm := ix c1
    have h3 := hg (s.open' [33]) (by omega)
    generalize s.open' [33] = s1 at *
    generalize g s1 = q at *
    obtain ⟨⟨k0, e0, ks0⟩, s0⟩ := q
    have h4 := iK s0
    simp only [coA] at h3 ⊢
    refine aK [] Tryz.func104 rfl Tryz.ntmps104 (Nat.le_of_ble_eq_true rfl) (Nat.le_of_ble_eq_true rfl) fun w0 G0 B0 Pr hB0 => ?_
    simp only [aQ, aI, List.cons_append, List.nil_append]
    repeat' (first | (with_reducible refine hY _ ?_; clear hY Y) | ((with_reducible first | refine av rfl (aD fun K' hK' => ab ?_) | refine hK' _ (ac fun Y hY => ab ?_) | refine ac fun Y hY => ab ?_ | refine ae tk0 aY (ac fun Y hY => ab ?_) | refine ab ?_ | refine ap ?_); (try clear hK' K'); (try dsimp only [aop]); try simp only [go_sem, ↓reduceIte, Nat.reduceEqDiff, Nat.reduceLT, Nat.reduceLeDiff, Nat.reduceAdd, Nat.reduceSub, Nat.reduceMul, Nat.reduceBEq, Nat.reduceBNe, Nat.reducePow, Int.reduceToNat, Int.reduceLE, Int.reduceLT, Int.reduceMul, Int.reduceEq, Int.reducePow, Int.reduceAdd, Int.reduceSub, Int.reduceNeg, reduceCtorEq, aY, Tryz.results104]) | (with_reducible first | refine ai ?_ | refine al ?_ | refine am ?_ | refine aL fun K hK => ?_ | refine ax ?_ | refine bg ?_ | refine bL ?_ | refine aq ?_ | refine az ?_) | (with_reducible refine hK _ ?_; clear hK K) | ((with_reducible refine ah ?_ ?_); (· decide)) | (with_reducible refine aa (h1) ?_) | (with_reducible refine aa (h2) ?_) | (with_reducible refine aa (h3) ?_) | (with_reducible refine aa (h4) ?_))
    all_goals first | rfl | exact ⟨rfl, rfl⟩
  simp only [Bool.false_eq_true, if_false]
  have h1 := kR c1
  cases c2 : s.is [91]
  case true =>
    simp only [if_true]
    have h2 := j1 c2
    have h3 := nq hg hmu s hs (.inl c2)
    generalize eE g s = q at *
    obtain ⟨⟨k0, e0, ks0⟩, s0⟩ := q
    simp only [coA] at h3 ⊢
    refine aK [] Tryz.func104 rfl Tryz.ntmps104 (Nat.le_of_ble_eq_true rfl) (Nat.le_of_ble_eq_true rfl) fun w0 G0 B0 Pr hB0 => ?_
    simp only [aQ, aI, List.cons_append, List.nil_append]
    repeat' (first | (with_reducible refine hY _ ?_; clear hY Y) | ((with_reducible first | refine av rfl (aD fun K' hK' => ab ?_) | refine hK' _ (ac fun Y hY => ab ?_) | refine ac fun Y hY => ab ?_ | refine ae tk0 aY (ac fun Y hY => ab ?_) | refine ab ?_ | refine ap ?_); (try clear hK' K'); (try dsimp only [aop]); try simp only [go_sem, ↓reduceIte, Nat.reduceEqDiff, Nat.reduceLT, Nat.reduceLeDiff, Nat.reduceAdd, Nat.reduceSub, Nat.reduceMul, Nat.reduceBEq, Nat.reduceBNe, Nat.reducePow, Int.reduceToNat, Int.reduceLE, Int.reduceLT, Int.reduceMul, Int.reduceEq, Int.reducePow, Int.reduceAdd, Int.reduceSub, Int.reduceNeg, reduceCtorEq, aY, Tryz.results104]) | (with_reducible first | refine ai ?_ | refine al ?_ | refine am ?_ | refine aL fun K hK => ?_ | refine ax ?_ | refine ar ?_ | refine bg ?_ | refine bL ?_ | refine aq ?_ | refine az ?_) | (with_reducible refine hK _ ?_; clear hK K) | ((with_reducible refine ah ?_ ?_); (· decide)) | (with_reducible refine aa (h1) ?_) | (with_reducible refine aa (h2) ?_) | (with_reducible refine aa (h3) ?_))
    all_goals first | rfl | exact ⟨rfl, rfl⟩
  simp only [Bool.false_eq_true, if_false]
  have h2 := kR c2
  cases c3 : s.is [116, 114, 117, 101]
  case true =>
    simp only [if_true]
    have h3 := dv c3
    generalize s.drop = s1 at *
    refine aK [] Tryz.func104 rfl Tryz.ntmps104 (Nat.le_of_ble_eq_true rfl) (Nat.le_of_ble_eq_true rfl) fun w0 G0 B0 Pr hB0 => ?_
    simp only [aQ, aI, List.cons_append, List.nil_append]
    repeat' (first | (with_reducible refine hY _ ?_; clear hY Y) | ((with_reducible first | refine av rfl (aD fun K' hK' => ab ?_) | refine hK' _ (ac fun Y hY => ab ?_) | refine ac fun Y hY => ab ?_ | refine ae tk0 aY (ac fun Y hY => ab ?_) | refine ab ?_ | refine ap ?_); (try clear hK' K'); (try dsimp only [aop]); try simp only [go_sem, ↓reduceIte, Nat.reduceEqDiff, Nat.reduceLT, Nat.reduceLeDiff, Nat.reduceAdd, Nat.reduceSub, Nat.reduceMul, Nat.reduceBEq, Nat.reduceBNe, Nat.reducePow, Int.reduceToNat, Int.reduceLE, Int.reduceLT, Int.reduceMul, Int.reduceEq, Int.reducePow, Int.reduceAdd, Int.reduceSub, Int.reduceNeg, reduceCtorEq, aY, Tryz.results104]) | (with_reducible first | refine ai ?_ | refine al ?_ | refine am ?_ | refine aL fun K hK => ?_ | refine ax ?_ | refine ar ?_ | refine bg ?_ | refine bL ?_ | refine aq ?_ | refine az ?_) | (with_reducible refine hK _ ?_; clear hK K) | ((with_reducible refine ah ?_ ?_); (· decide)) | (with_reducible refine aa (h1) ?_) | (with_reducible refine aa (h2) ?_) | (with_reducible refine aa (h3) ?_))
    all_goals first | rfl | exact ⟨rfl, rfl⟩
  simp only [Bool.false_eq_true, if_false]
  have h3 := dM c3
  cases c4 : s.is [102, 97, 108, 115, 101]
  case true =>
    simp only [if_true]
    have h4 := dv c4
    generalize s.drop = s1 at *
    refine aK [] Tryz.func104 rfl Tryz.ntmps104 (Nat.le_of_ble_eq_true rfl) (Nat.le_of_ble_eq_true rfl) fun w0 G0 B0 Pr hB0 => ?_
    simp only [aQ, aI, List.cons_append, List.nil_append]
    repeat' (first | (with_reducible refine hY _ ?_; clear hY Y) | ((with_reducible first | refine av rfl (aD fun K' hK' => ab ?_) | refine hK' _ (ac fun Y hY => ab ?_) | refine ac fun Y hY => ab ?_ | refine ae tk0 aY (ac fun Y hY => ab ?_) | refine ab ?_ | refine ap ?_); (try clear hK' K'); (try dsimp only [aop]); try simp only [go_sem, ↓reduceIte, Nat.reduceEqDiff, Nat.reduceLT, Nat.reduceLeDiff, Nat.reduceAdd, Nat.reduceSub, Nat.reduceMul, Nat.reduceBEq, Nat.reduceBNe, Nat.reducePow, Int.reduceToNat, Int.reduceLE, Int.reduceLT, Int.reduceMul, Int.reduceEq, Int.reducePow, Int.reduceAdd, Int.reduceSub, Int.reduceNeg, reduceCtorEq, aY, Tryz.results104]) | (with_reducible first | refine ai ?_ | refine al ?_ | refine am ?_ | refine aL fun K hK => ?_ | refine ax ?_ | refine ar ?_ | refine bg ?_ | refine bL ?_ | refine aq ?_ | refine az ?_) | (with_reducible refine hK _ ?_; clear hK K) | ((with_reducible refine ah ?_ ?_); (· decide)) | (with_reducible refine aa (h1) ?_) | (with_reducible refine aa (h2) ?_) | (with_reducible refine aa (h3) ?_) | (with_reducible refine aa (h4) ?_))
    all_goals first | rfl | exact ⟨rfl, rfl⟩
  simp only [Bool.false_eq_true, if_false]
  have h4 := dM c4
  clear c1 c2 c3 c4
  have h5 := fW s
  generalize du s = q at *
  obtain ⟨⟨k0, n0, x0, ks0⟩, s2⟩ := q
  simp only [exA] at h5 ⊢
  unfold PS.cmp
  cases d1 : s2.is [61, 61]
  case true =>
    simp only [if_true]
    have h6 := dv d1
    generalize s2.drop = s3 at *
    have hq := fW s3
    generalize du s3 = q3 at *
    obtain ⟨⟨k3, n3, x3, ks3⟩, s4⟩ := q3
    simp only [exA] at hq ⊢
    refine aK [] Tryz.func104 rfl Tryz.ntmps104 (Nat.le_of_ble_eq_true rfl) (Nat.le_of_ble_eq_true rfl) fun w0 G0 B0 Pr hB0 => ?_
    simp only [aQ, aI, List.cons_append, List.nil_append]
    repeat' (first | (with_reducible refine hY _ ?_; clear hY Y) | ((with_reducible first | refine av rfl (aD fun K' hK' => ab ?_) | refine hK' _ (ac fun Y hY => ab ?_) | refine ac fun Y hY => ab ?_ | refine ae tk0 aY (ac fun Y hY => ab ?_) | refine ab ?_ | refine ap ?_); (try clear hK' K'); (try dsimp only [aop]); try simp only [go_sem, ↓reduceIte, Nat.reduceEqDiff, Nat.reduceLT, Nat.reduceLeDiff, Nat.reduceAdd, Nat.reduceSub, Nat.reduceMul, Nat.reduceBEq, Nat.reduceBNe, Nat.reducePow, Int.reduceToNat, Int.reduceLE, Int.reduceLT, Int.reduceMul, Int.reduceEq, Int.reducePow, Int.reduceAdd, Int.reduceSub, Int.reduceNeg, reduceCtorEq, aY, Tryz.results104]) | (with_reducible first | refine ai ?_ | refine al ?_ | refine am ?_ | refine aL fun K hK => ?_ | refine ax ?_ | refine ar ?_ | refine aO ?_ | refine aq ?_ | refine aC ?_ | refine az ?_) | (with_reducible refine hK _ ?_; clear hK K) | ((with_reducible refine ah ?_ ?_); (· decide)) | (with_reducible refine aa (h1) ?_) | (with_reducible refine aa (h2) ?_) | (with_reducible refine aa (h3) ?_) | (with_reducible refine aa (h4) ?_) | (with_reducible refine aa (h5) ?_) | (with_reducible refine aa (h6) ?_) | (with_reducible refine aa (hq) ?_))
    all_goals first | rfl | exact ⟨rfl, rfl⟩
  simp only [Bool.false_eq_true, if_false]
  have h6 := dM d1
  cases d2 : s2.is [33, 61]
  case true =>
    simp only [if_true]
    have h7 := dv d2
    generalize s2.drop = s3 at *
    have hq := fW s3
    generalize du s3 = q3 at *
    obtain ⟨⟨k3, n3, x3, ks3⟩, s4⟩ := q3
    simp only [exA] at hq ⊢
    refine aK [] Tryz.func104 rfl Tryz.ntmps104 (Nat.le_of_ble_eq_true rfl) (Nat.le_of_ble_eq_true rfl) fun w0 G0 B0 Pr hB0 => ?_
    simp only [aQ, aI, List.cons_append, List.nil_append]
    repeat' (first | (with_reducible refine hY _ ?_; clear hY Y) | ((with_reducible first | refine av rfl (aD fun K' hK' => ab ?_) | refine hK' _ (ac fun Y hY => ab ?_) | refine ac fun Y hY => ab ?_ | refine ae tk0 aY (ac fun Y hY => ab ?_) | refine ab ?_ | refine ap ?_); (try clear hK' K'); (try dsimp only [aop]); try simp only [go_sem, ↓reduceIte, Nat.reduceEqDiff, Nat.reduceLT, Nat.reduceLeDiff, Nat.reduceAdd, Nat.reduceSub, Nat.reduceMul, Nat.reduceBEq, Nat.reduceBNe, Nat.reducePow, Int.reduceToNat, Int.reduceLE, Int.reduceLT, Int.reduceMul, Int.reduceEq, Int.reducePow, Int.reduceAdd, Int.reduceSub, Int.reduceNeg, reduceCtorEq, aY, Tryz.results104]) | (with_reducible first | refine ai ?_ | refine al ?_ | refine am ?_ | refine aL fun K hK => ?_ | refine ax ?_ | refine ar ?_ | refine aO ?_ | refine aq ?_ | refine aC ?_ | refine az ?_) | (with_reducible refine hK _ ?_; clear hK K) | ((with_reducible refine ah ?_ ?_); (· decide)) | (with_reducible refine aa (h1) ?_) | (with_reducible refine aa (h2) ?_) | (with_reducible refine aa (h3) ?_) | (with_reducible refine aa (h4) ?_) | (with_reducible refine aa (h5) ?_) | (with_reducible refine aa (h6) ?_) | (with_reducible refine aa (h7) ?_) | (with_reducible refine aa (hq) ?_))
    all_goals first | rfl | exact ⟨rfl, rfl⟩
  simp only [Bool.false_eq_true, if_false]
  have h7 := dM d2
  cases d3 : s2.is [60]
  case true =>
    simp only [if_true]
    have h8 := dv d3
    generalize s2.drop = s3 at *
    have hq := fW s3
    generalize du s3 = q3 at *
    obtain ⟨⟨k3, n3, x3, ks3⟩, s4⟩ := q3
    simp only [exA] at hq ⊢
    refine aK [] Tryz.func104 rfl Tryz.ntmps104 (Nat.le_of_ble_eq_true rfl) (Nat.le_of_ble_eq_true rfl) fun w0 G0 B0 Pr hB0 => ?_
    simp only [aQ, aI, List.cons_append, List.nil_append]
    repeat' (first | (with_reducible refine hY _ ?_; clear hY Y) | ((with_reducible first | refine av rfl (aD fun K' hK' => ab ?_) | refine hK' _ (ac fun Y hY => ab ?_) | refine ac fun Y hY => ab ?_ | refine ae tk0 aY (ac fun Y hY => ab ?_) | refine ab ?_ | refine ap ?_); (try clear hK' K'); (try dsimp only [aop]); try simp only [go_sem, ↓reduceIte, Nat.reduceEqDiff, Nat.reduceLT, Nat.reduceLeDiff, Nat.reduceAdd, Nat.reduceSub, Nat.reduceMul, Nat.reduceBEq, Nat.reduceBNe, Nat.reducePow, Int.reduceToNat, Int.reduceLE, Int.reduceLT, Int.reduceMul, Int.reduceEq, Int.reducePow, Int.reduceAdd, Int.reduceSub, Int.reduceNeg, reduceCtorEq, aY, Tryz.results104]) | (with_reducible first | refine ai ?_ | refine al ?_ | refine am ?_ | refine aL fun K hK => ?_ | refine ax ?_ | refine ar ?_ | refine aO ?_ | refine aq ?_ | refine aC ?_ | refine az ?_) | (with_reducible refine hK _ ?_; clear hK K) | ((with_reducible refine ah ?_ ?_); (· decide)) | (with_reducible refine aa (h1) ?_) | (with_reducible refine aa (h2) ?_) | (with_reducible refine aa (h3) ?_) | (with_reducible refine aa (h4) ?_) | (with_reducible refine aa (h5) ?_) | (with_reducible refine aa (h6) ?_) | (with_reducible refine aa (h7) ?_) | (with_reducible refine aa (h8) ?_) | (with_reducible refine aa (hq) ?_))
    all_goals first | rfl | exact ⟨rfl, rfl⟩
  simp only [Bool.false_eq_true, if_false]
  have h8 := dM d3
  cases d4 : s2.is [60, 61]
  case true =>
    simp only [if_true]
    have h9 := dv d4
    generalize s2.drop = s3 at *
    have hq := fW s3
    generalize du s3 = q3 at *
    obtain ⟨⟨k3, n3, x3, ks3⟩, s4⟩ := q3
    simp only [exA] at hq ⊢
    refine aK [] Tryz.func104 rfl Tryz.ntmps104 (Nat.le_of_ble_eq_true rfl) (Nat.le_of_ble_eq_true rfl) fun w0 G0 B0 Pr hB0 => ?_
    simp only [aQ, aI, List.cons_append, List.nil_append]
    repeat' (first | (with_reducible refine hY _ ?_; clear hY Y) | ((with_reducible first | refine av rfl (aD fun K' hK' => ab ?_) | refine hK' _ (ac fun Y hY => ab ?_) | refine ac fun Y hY => ab ?_ | refine ae tk0 aY (ac fun Y hY => ab ?_) | refine ab ?_ | refine ap ?_); (try clear hK' K'); (try dsimp only [aop]); try simp only [go_sem, ↓reduceIte, Nat.reduceEqDiff, Nat.reduceLT, Nat.reduceLeDiff, Nat.reduceAdd, Nat.reduceSub, Nat.reduceMul, Nat.reduceBEq, Nat.reduceBNe, Nat.reducePow, Int.reduceToNat, Int.reduceLE, Int.reduceLT, Int.reduceMul, Int.reduceEq, Int.reducePow, Int.reduceAdd, Int.reduceSub, Int.reduceNeg, reduceCtorEq, aY, Tryz.results104]) | (with_reducible first | refine ai ?_ | refine al ?_ | refine am ?_ | refine aL fun K hK => ?_ | refine ax ?_ | refine ar ?_ | refine aO ?_ | refine aq ?_ | refine aC ?_ | refine az ?_) | (with_reducible refine hK _ ?_; clear hK K) | ((with_reducible refine ah ?_ ?_); (· decide)) | (with_reducible refine aa (h1) ?_) | (with_reducible refine aa (h2) ?_) | (with_reducible refine aa (h3) ?_) | (with_reducible refine aa (h4) ?_) | (with_reducible refine aa (h5) ?_) | (with_reducible refine aa (h6) ?_) | (with_reducible refine aa (h7) ?_) | (with_reducible refine aa (h8) ?_) | (with_reducible refine aa (h9) ?_) | (with_reducible refine aa (hq) ?_))
    all_goals first | rfl | exact ⟨rfl, rfl⟩
  simp only [Bool.false_eq_true, if_false]
  have h9 := dM d4
  have h10 := j4 s2 11
  generalize s2.fail 11 = s3 at *
  have hq := fW s3
  generalize du s3 = q3 at *
  obtain ⟨⟨k3, n3, x3, ks3⟩, s4⟩ := q3
  simp only [exA] at hq ⊢
  refine aK [] Tryz.func104 rfl Tryz.ntmps104 (Nat.le_of_ble_eq_true rfl) (Nat.le_of_ble_eq_true rfl) fun w0 G0 B0 Pr hB0 => ?_
  simp only [aQ, aI, List.cons_append, List.nil_append]
  repeat' (first | (with_reducible refine hY _ ?_; clear hY Y) | ((with_reducible first | refine av rfl (aD fun K' hK' => ab ?_) | refine hK' _ (ac fun Y hY => ab ?_) | refine ac fun Y hY => ab ?_ | refine ae tk0 aY (ac fun Y hY => ab ?_) | refine ab ?_ | refine ap ?_); (try clear hK' K'); (try dsimp only [aop]); try simp only [go_sem, ↓reduceIte, Nat.reduceEqDiff, Nat.reduceLT, Nat.reduceLeDiff, Nat.reduceAdd, Nat.reduceSub, Nat.reduceMul, Nat.reduceBEq, Nat.reduceBNe, Nat.reducePow, Int.reduceToNat, Int.reduceLE, Int.reduceLT, Int.reduceMul, Int.reduceEq, Int.reducePow, Int.reduceAdd, Int.reduceSub, Int.reduceNeg, reduceCtorEq, aY, Tryz.results104]) | (with_reducible first | refine ai ?_ | refine al ?_ | refine am ?_ | refine aL fun K hK => ?_ | refine ar ?_ | refine aO ?_ | refine aq ?_ | refine aC ?_ | refine az ?_) | (with_reducible refine hK _ ?_; clear hK K) | ((with_reducible refine ah ?_ ?_); (· decide)) | (with_reducible refine aa (h1) ?_) | (with_reducible refine aa (h2) ?_) | (with_reducible refine aa (h3) ?_) | (with_reducible refine aa (h4) ?_) | (with_reducible refine aa (h5) ?_) | (with_reducible refine aa (h6) ?_) | (with_reducible refine aa (h7) ?_) | (with_reducible refine aa (h8) ?_) | (with_reducible refine aa (h9) ?_) | (with_reducible refine aa (h10) ?_) | (with_reducible refine aa (hq) ?_))
  all_goals first | rfl | exact ⟨rfl, rfl⟩
theorem vI : ∀ f, CoK 104 f (rc f)
  | 0 => fun s hs => absurd hs (Nat.not_lt_zero _)
  | f + 1 => z6 (vI f) (jJ f)
theorem ox (s : PS) : AFn Tryz.prog 85 [.loc 20000 0] [pA s] (.agg (coA (gL s).1)) [pA (gL s).2] :=
  vd (vI FU) (jJ FU) s (gH s)
theorem ud (s : PS) : AFn Tryz.prog 81 [.loc 20000 0] [pA s] (.agg (coA (fA s).1)) [pA (fA s).2] :=
  nq (vI FU) (jJ FU) s (Nat.lt_succ_of_lt (gH s)) (.inr (gH s))
end Go.Proofs.YtpkcgdikbjaoaaaGreatDoor
