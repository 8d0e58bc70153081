/- The parser in K: one condition. -/
import Derived.Test.YtpkcgdikbjaoaaaDoorZ16
namespace Go.Proofs.YtpkcgdikbjaoaaaDoor
set_option linter.unusedSimpArgs false
set_option linter.unusedVariables false
open Go.RowKit
theorem b0 {s : PS} {w : Wd} (h : s.is w = true) : AFn Tryd.prog 41 [.loc 20000 0, bs w] [pA s] (.c (.bool true)) [pA s.drop] := by
  have h1 := fz s w
  unfold PS.take at h1
  rw [if_pos h] at h1
  exact h1
theorem cf {s : PS} {w : Wd} (h : s.is w = false) : AFn Tryd.prog 41 [.loc 20000 0, bs w] [pA s] (.c (.bool false)) [pA s] := by
  have h1 := fz s w
  unfold PS.take at h1
  rw [h] at h1
  exact h1
theorem gq {s : PS} {w : Wd} (h : s.is w = true) : AFn Tryd.prog 44 [.loc 20000 0, bs w] [pA s] (.c (.bool true)) [pA s] := h ▸ jD s w
theorem gP {s : PS} {w : Wd} (h : s.is w = false) : AFn Tryd.prog 44 [.loc 20000 0, bs w] [pA s] (.c (.bool false)) [pA s] := h ▸ jD s w
def aB : Nat → List Nat
  | 0 => [0]
  | 1 => [0, 2]
  | 2 => [0, 2]
  | 3 => [0, 2]
  | 4 => [0, 2, 3]
  | 5 => [2, 3]
  | 6 => [0, 2]
  | 7 => [0, 2]
  | 8 => [0, 2]
  | 9 => [2]
  | 10 => [0, 2]
  | 11 => [2]
  | 12 => [0, 2]
  | 13 => [0, 2, 4]
  | 14 => [0, 2, 4, 5]
  | 15 => [0, 2, 4, 5]
  | 16 => [0, 2, 4, 5]
  | 17 => [0, 2, 4]
  | 18 => [0, 2, 4, 5]
  | 19 => [0, 2, 4]
  | 20 => [0, 2, 4, 5]
  | 21 => [0, 2, 4]
  | 22 => [0, 2, 4, 5]
  | 23 => [2, 4, 5, 6]
  | _ => []
set_option maxRecDepth 100000 in
set_option maxHeartbeats 8000000 in
theorem tH {B : Nat} {g : PS → Co × PS} (hg : CoK 72 B g) (hmu : ∀ s, (g s).2.mu ≤ s.mu) : CoK 72 (B + 1) (kU g) := by
  intro s hs
  unfold kU
  cases c1 : s.is [33]
  case true =>
    simp only [if_true]
    have h1 := gq c1
    have h2 := jn s [33]
    have hm := eS c1
    have h3 := hg (s.open' [33]) (by omega)
    generalize s.open' [33] = s1 at *
    generalize g s1 = q at *
    obtain ⟨⟨k0, e0, ks0⟩, s0⟩ := q
    have h4 := fd s0
    simp only [coA] at h3 ⊢
    refine aM [] Tryd.func72 rfl Tryd.ntmps72 (Nat.le_of_ble_eq_true rfl) (Nat.le_of_ble_eq_true rfl) fun w0 G0 B0 Pr hB0 => ?_
    simp only [aS, aJ, List.cons_append, List.nil_append]
    repeat' (first | (with_reducible refine hY _ ?_; clear hY Y) | ((with_reducible first | refine aD rfl (aN fun K' hK' => ab ?_) | refine hK' _ (ac fun Y hY => ab ?_) | refine ac fun Y hY => ab ?_ | refine ae tk0 aB (ac fun Y hY => ab ?_) | refine ab ?_ | refine av ?_); (try clear hK' K'); (try dsimp only [aop]); try simp only [go_sem, ↓reduceIte, Nat.reduceEqDiff, Nat.reduceLT, Nat.reduceLeDiff, Nat.reduceAdd, Nat.reduceSub, Nat.reduceMul, Nat.reduceBEq, Nat.reduceBNe, Nat.reducePow, Int.reduceToNat, Int.reduceLE, Int.reduceLT, Int.reduceMul, Int.reduceEq, Int.reducePow, Int.reduceAdd, Int.reduceSub, Int.reduceNeg, reduceCtorEq, aB, Tryd.results72]) | (with_reducible first | refine aj ?_ | refine ar ?_ | refine au ?_ | refine aT fun K hK => ?_ | refine aK ?_ | refine bA ?_ | refine b6 ?_ | refine ax ?_ | refine aF ?_) | (with_reducible refine hK _ ?_; clear hK K) | ((with_reducible refine al ?_ ?_); (· decide)) | (with_reducible refine aa (h1) ?_) | (with_reducible refine aa (h2) ?_) | (with_reducible refine aa (h3) ?_) | (with_reducible refine aa (h4) ?_))
    all_goals first | rfl | exact ⟨rfl, rfl⟩
  simp only [Bool.false_eq_true, if_false]
  have h1 := gP c1
  cases c2 : s.is [91]
  case true =>
    simp only [if_true]
    have h2 := gq c2
    have h3 := kC hg hmu s hs (.inl c2)
    generalize dm g s = q at *
    obtain ⟨⟨k0, e0, ks0⟩, s0⟩ := q
    simp only [coA] at h3 ⊢
    refine aM [] Tryd.func72 rfl Tryd.ntmps72 (Nat.le_of_ble_eq_true rfl) (Nat.le_of_ble_eq_true rfl) fun w0 G0 B0 Pr hB0 => ?_
    simp only [aS, aJ, List.cons_append, List.nil_append]
    repeat' (first | (with_reducible refine hY _ ?_; clear hY Y) | ((with_reducible first | refine aD rfl (aN fun K' hK' => ab ?_) | refine hK' _ (ac fun Y hY => ab ?_) | refine ac fun Y hY => ab ?_ | refine ae tk0 aB (ac fun Y hY => ab ?_) | refine ab ?_ | refine av ?_); (try clear hK' K'); (try dsimp only [aop]); try simp only [go_sem, ↓reduceIte, Nat.reduceEqDiff, Nat.reduceLT, Nat.reduceLeDiff, Nat.reduceAdd, Nat.reduceSub, Nat.reduceMul, Nat.reduceBEq, Nat.reduceBNe, Nat.reducePow, Int.reduceToNat, Int.reduceLE, Int.reduceLT, Int.reduceMul, Int.reduceEq, Int.reducePow, Int.reduceAdd, Int.reduceSub, Int.reduceNeg, reduceCtorEq, aB, Tryd.results72]) | (with_reducible first | refine aj ?_ | refine ar ?_ | refine au ?_ | refine aT fun K hK => ?_ | refine aK ?_ | refine aC ?_ | refine bA ?_ | refine b6 ?_ | refine ax ?_ | refine aF ?_) | (with_reducible refine hK _ ?_; clear hK K) | ((with_reducible refine al ?_ ?_); (· decide)) | (with_reducible refine aa (h1) ?_) | (with_reducible refine aa (h2) ?_) | (with_reducible refine aa (h3) ?_))
    all_goals first | rfl | exact ⟨rfl, rfl⟩
  simp only [Bool.false_eq_true, if_false]
  have h2 := gP c2
  cases c3 : s.is [116, 114, 117, 101]
  case true =>
    simp only [if_true]
    have h3 := b0 c3
    generalize s.drop = s1 at *
    refine aM [] Tryd.func72 rfl Tryd.ntmps72 (Nat.le_of_ble_eq_true rfl) (Nat.le_of_ble_eq_true rfl) fun w0 G0 B0 Pr hB0 => ?_
    simp only [aS, aJ, List.cons_append, List.nil_append]
    repeat' (first | (with_reducible refine hY _ ?_; clear hY Y) | ((with_reducible first | refine aD rfl (aN fun K' hK' => ab ?_) | refine hK' _ (ac fun Y hY => ab ?_) | refine ac fun Y hY => ab ?_ | refine ae tk0 aB (ac fun Y hY => ab ?_) | refine ab ?_ | refine av ?_); (try clear hK' K'); (try dsimp only [aop]); try simp only [go_sem, ↓reduceIte, Nat.reduceEqDiff, Nat.reduceLT, Nat.reduceLeDiff, Nat.reduceAdd, Nat.reduceSub, Nat.reduceMul, Nat.reduceBEq, Nat.reduceBNe, Nat.reducePow, Int.reduceToNat, Int.reduceLE, Int.reduceLT, Int.reduceMul, Int.reduceEq, Int.reducePow, Int.reduceAdd, Int.reduceSub, Int.reduceNeg, reduceCtorEq, aB, Tryd.results72]) | (with_reducible first | refine aj ?_ | refine ar ?_ | refine au ?_ | refine aT fun K hK => ?_ | refine aK ?_ | refine aC ?_ | refine bA ?_ | refine b6 ?_ | refine ax ?_ | refine aF ?_) | (with_reducible refine hK _ ?_; clear hK K) | ((with_reducible refine al ?_ ?_); (· decide)) | (with_reducible refine aa (h1) ?_) | (with_reducible refine aa (h2) ?_) | (with_reducible refine aa (h3) ?_))
    all_goals first | rfl | exact ⟨rfl, rfl⟩
  simp only [Bool.false_eq_true, if_false]
  have h3 := cf c3
  cases c4 : s.is [102, 97, 108, 115, 101]
  case true =>
    simp only [if_true]
    have h4 := b0 c4
    generalize s.drop = s1 at *
    refine aM [] Tryd.func72 rfl Tryd.ntmps72 (Nat.le_of_ble_eq_true rfl) (Nat.le_of_ble_eq_true rfl) fun w0 G0 B0 Pr hB0 => ?_
    simp only [aS, aJ, List.cons_append, List.nil_append]
    repeat' (first | (with_reducible refine hY _ ?_; clear hY Y) | ((with_reducible first | refine aD rfl (aN fun K' hK' => ab ?_) | refine hK' _ (ac fun Y hY => ab ?_) | refine ac fun Y hY => ab ?_ | refine ae tk0 aB (ac fun Y hY => ab ?_) | refine ab ?_ | refine av ?_); (try clear hK' K'); (try dsimp only [aop]); try simp only [go_sem, ↓reduceIte, Nat.reduceEqDiff, Nat.reduceLT, Nat.reduceLeDiff, Nat.reduceAdd, Nat.reduceSub, Nat.reduceMul, Nat.reduceBEq, Nat.reduceBNe, Nat.reducePow, Int.reduceToNat, Int.reduceLE, Int.reduceLT, Int.reduceMul, Int.reduceEq, Int.reducePow, Int.reduceAdd, Int.reduceSub, Int.reduceNeg, reduceCtorEq, aB, Tryd.results72]) | (with_reducible first | refine aj ?_ | refine ar ?_ | refine au ?_ | refine aT fun K hK => ?_ | refine aK ?_ | refine aC ?_ | refine bA ?_ | refine b6 ?_ | refine ax ?_ | refine aF ?_) | (with_reducible refine hK _ ?_; clear hK K) | ((with_reducible refine al ?_ ?_); (· decide)) | (with_reducible refine aa (h1) ?_) | (with_reducible refine aa (h2) ?_) | (with_reducible refine aa (h3) ?_) | (with_reducible refine aa (h4) ?_))
    all_goals first | rfl | exact ⟨rfl, rfl⟩
  simp only [Bool.false_eq_true, if_false]
  have h4 := cf c4
  clear c1 c2 c3 c4
  have h5 := dx s
  generalize cb s = q at *
  obtain ⟨⟨k0, n0, x0, ks0⟩, s2⟩ := q
  simp only [exA] at h5 ⊢
  unfold PS.cmp
  cases d1 : s2.is [61, 61]
  case true =>
    simp only [if_true]
    have h6 := b0 d1
    generalize s2.drop = s3 at *
    have hq := dx s3
    generalize cb s3 = q3 at *
    obtain ⟨⟨k3, n3, x3, ks3⟩, s4⟩ := q3
    simp only [exA] at hq ⊢
    refine aM [] Tryd.func72 rfl Tryd.ntmps72 (Nat.le_of_ble_eq_true rfl) (Nat.le_of_ble_eq_true rfl) fun w0 G0 B0 Pr hB0 => ?_
    simp only [aS, aJ, List.cons_append, List.nil_append]
    repeat' (first | (with_reducible refine hY _ ?_; clear hY Y) | ((with_reducible first | refine aD rfl (aN fun K' hK' => ab ?_) | refine hK' _ (ac fun Y hY => ab ?_) | refine ac fun Y hY => ab ?_ | refine ae tk0 aB (ac fun Y hY => ab ?_) | refine ab ?_ | refine av ?_); (try clear hK' K'); (try dsimp only [aop]); try simp only [go_sem, ↓reduceIte, Nat.reduceEqDiff, Nat.reduceLT, Nat.reduceLeDiff, Nat.reduceAdd, Nat.reduceSub, Nat.reduceMul, Nat.reduceBEq, Nat.reduceBNe, Nat.reducePow, Int.reduceToNat, Int.reduceLE, Int.reduceLT, Int.reduceMul, Int.reduceEq, Int.reducePow, Int.reduceAdd, Int.reduceSub, Int.reduceNeg, reduceCtorEq, aB, Tryd.results72]) | (with_reducible first | refine aj ?_ | refine ar ?_ | refine au ?_ | refine aT fun K hK => ?_ | refine aK ?_ | refine aC ?_ | refine a8 ?_ | refine ax ?_ | refine aP ?_ | refine aF ?_) | (with_reducible refine hK _ ?_; clear hK K) | ((with_reducible refine al ?_ ?_); (· decide)) | (with_reducible refine aa (h1) ?_) | (with_reducible refine aa (h2) ?_) | (with_reducible refine aa (h3) ?_) | (with_reducible refine aa (h4) ?_) | (with_reducible refine aa (h5) ?_) | (with_reducible refine aa (h6) ?_) | (with_reducible refine aa (hq) ?_))
    all_goals first | rfl | exact ⟨rfl, rfl⟩
  simp only [Bool.false_eq_true, if_false]
  have h6 := cf d1
  cases d2 : s2.is [33, 61]
  case true =>
    simp only [if_true]
    have h7 := b0 d2
    generalize s2.drop = s3 at *
    have hq := dx s3
    generalize cb s3 = q3 at *
    obtain ⟨⟨k3, n3, x3, ks3⟩, s4⟩ := q3
    simp only [exA] at hq ⊢
    refine aM [] Tryd.func72 rfl Tryd.ntmps72 (Nat.le_of_ble_eq_true rfl) (Nat.le_of_ble_eq_true rfl) fun w0 G0 B0 Pr hB0 => ?_
    simp only [aS, aJ, List.cons_append, List.nil_append]
    repeat' (first | (with_reducible refine hY _ ?_; clear hY Y) | ((with_reducible first | refine aD rfl (aN fun K' hK' => ab ?_) | refine hK' _ (ac fun Y hY => ab ?_) | refine ac fun Y hY => ab ?_ | refine ae tk0 aB (ac fun Y hY => ab ?_) | refine ab ?_ | refine av ?_); (try clear hK' K'); (try dsimp only [aop]); try simp only [go_sem, ↓reduceIte, Nat.reduceEqDiff, Nat.reduceLT, Nat.reduceLeDiff, Nat.reduceAdd, Nat.reduceSub, Nat.reduceMul, Nat.reduceBEq, Nat.reduceBNe, Nat.reducePow, Int.reduceToNat, Int.reduceLE, Int.reduceLT, Int.reduceMul, Int.reduceEq, Int.reducePow, Int.reduceAdd, Int.reduceSub, Int.reduceNeg, reduceCtorEq, aB, Tryd.results72]) | (with_reducible first | refine aj ?_ | refine ar ?_ | refine au ?_ | refine aT fun K hK => ?_ | refine aK ?_ | refine aC ?_ | refine a8 ?_ | refine ax ?_ | refine aP ?_ | refine aF ?_) | (with_reducible refine hK _ ?_; clear hK K) | ((with_reducible refine al ?_ ?_); (· decide)) | (with_reducible refine aa (h1) ?_) | (with_reducible refine aa (h2) ?_) | (with_reducible refine aa (h3) ?_) | (with_reducible refine aa (h4) ?_) | (with_reducible refine aa (h5) ?_) | (with_reducible refine aa (h6) ?_) | (with_reducible refine aa (h7) ?_) | (with_reducible refine aa (hq) ?_))
    all_goals first | rfl | exact ⟨rfl, rfl⟩
  simp only [Bool.false_eq_true, if_false]
  have h7 := cf d2
  cases d3 : s2.is [60]
  case true =>
    simp only [if_true]
    have h8 := b0 d3
    generalize s2.drop = s3 at *
    have hq := dx s3
    generalize cb s3 = q3 at *
    obtain ⟨⟨k3, n3, x3, ks3⟩, s4⟩ := q3
    simp only [exA] at hq ⊢
    refine aM [] Tryd.func72 rfl Tryd.ntmps72 (Nat.le_of_ble_eq_true rfl) (Nat.le_of_ble_eq_true rfl) fun w0 G0 B0 Pr hB0 => ?_
    simp only [aS, aJ, List.cons_append, List.nil_append]
    repeat' (first | (with_reducible refine hY _ ?_; clear hY Y) | ((with_reducible first | refine aD rfl (aN fun K' hK' => ab ?_) | refine hK' _ (ac fun Y hY => ab ?_) | refine ac fun Y hY => ab ?_ | refine ae tk0 aB (ac fun Y hY => ab ?_) | refine ab ?_ | refine av ?_); (try clear hK' K'); (try dsimp only [aop]); try simp only [go_sem, ↓reduceIte, Nat.reduceEqDiff, Nat.reduceLT, Nat.reduceLeDiff, Nat.reduceAdd, Nat.reduceSub, Nat.reduceMul, Nat.reduceBEq, Nat.reduceBNe, Nat.reducePow, Int.reduceToNat, Int.reduceLE, Int.reduceLT, Int.reduceMul, Int.reduceEq, Int.reducePow, Int.reduceAdd, Int.reduceSub, Int.reduceNeg, reduceCtorEq, aB, Tryd.results72]) | (with_reducible first | refine aj ?_ | refine ar ?_ | refine au ?_ | refine aT fun K hK => ?_ | refine aK ?_ | refine aC ?_ | refine a8 ?_ | refine ax ?_ | refine aP ?_ | refine aF ?_) | (with_reducible refine hK _ ?_; clear hK K) | ((with_reducible refine al ?_ ?_); (· decide)) | (with_reducible refine aa (h1) ?_) | (with_reducible refine aa (h2) ?_) | (with_reducible refine aa (h3) ?_) | (with_reducible refine aa (h4) ?_) | (with_reducible refine aa (h5) ?_) | (with_reducible refine aa (h6) ?_) | (with_reducible refine aa (h7) ?_) | (with_reducible refine aa (h8) ?_) | (with_reducible refine aa (hq) ?_))
    all_goals first | rfl | exact ⟨rfl, rfl⟩
  simp only [Bool.false_eq_true, if_false]
  have h8 := cf d3
  cases d4 : s2.is [60, 61]
  case true =>
    simp only [if_true]
    have h9 := b0 d4
    generalize s2.drop = s3 at *
    have hq := dx s3
    generalize cb s3 = q3 at *
    obtain ⟨⟨k3, n3, x3, ks3⟩, s4⟩ := q3
    simp only [exA] at hq ⊢
    refine aM [] Tryd.func72 rfl Tryd.ntmps72 (Nat.le_of_ble_eq_true rfl) (Nat.le_of_ble_eq_true rfl) fun w0 G0 B0 Pr hB0 => ?_
    simp only [aS, aJ, List.cons_append, List.nil_append]
    repeat' (first | (with_reducible refine hY _ ?_; clear hY Y) | ((with_reducible first | refine aD rfl (aN fun K' hK' => ab ?_) | refine hK' _ (ac fun Y hY => ab ?_) | refine ac fun Y hY => ab ?_ | refine ae tk0 aB (ac fun Y hY => ab ?_) | refine ab ?_ | refine av ?_); (try clear hK' K'); (try dsimp only [aop]); try simp only [go_sem, ↓reduceIte, Nat.reduceEqDiff, Nat.reduceLT, Nat.reduceLeDiff, Nat.reduceAdd, Nat.reduceSub, Nat.reduceMul, Nat.reduceBEq, Nat.reduceBNe, Nat.reducePow, Int.reduceToNat, Int.reduceLE, Int.reduceLT, Int.reduceMul, Int.reduceEq, Int.reducePow, Int.reduceAdd, Int.reduceSub, Int.reduceNeg, reduceCtorEq, aB, Tryd.results72]) | (with_reducible first | refine aj ?_ | refine ar ?_ | refine au ?_ | refine aT fun K hK => ?_ | refine aK ?_ | refine aC ?_ | refine a8 ?_ | refine ax ?_ | refine aP ?_ | refine aF ?_) | (with_reducible refine hK _ ?_; clear hK K) | ((with_reducible refine al ?_ ?_); (· decide)) | (with_reducible refine aa (h1) ?_) | (with_reducible refine aa (h2) ?_) | (with_reducible refine aa (h3) ?_) | (with_reducible refine aa (h4) ?_) | (with_reducible refine aa (h5) ?_) | (with_reducible refine aa (h6) ?_) | (with_reducible refine aa (h7) ?_) | (with_reducible refine aa (h8) ?_) | (with_reducible refine aa (h9) ?_) | (with_reducible refine aa (hq) ?_))
    all_goals first | rfl | exact ⟨rfl, rfl⟩
  simp only [Bool.false_eq_true, if_false]
  have h9 := cf d4
  have h10 := gA s2 11
  generalize s2.fail 11 = s3 at *
  have hq := dx s3
  generalize cb s3 = q3 at *
  obtain ⟨⟨k3, n3, x3, ks3⟩, s4⟩ := q3
  simp only [exA] at hq ⊢
  refine aM [] Tryd.func72 rfl Tryd.ntmps72 (Nat.le_of_ble_eq_true rfl) (Nat.le_of_ble_eq_true rfl) fun w0 G0 B0 Pr hB0 => ?_
  simp only [aS, aJ, List.cons_append, List.nil_append]
  repeat' (first | (with_reducible refine hY _ ?_; clear hY Y) | ((with_reducible first | refine aD rfl (aN fun K' hK' => ab ?_) | refine hK' _ (ac fun Y hY => ab ?_) | refine ac fun Y hY => ab ?_ | refine ae tk0 aB (ac fun Y hY => ab ?_) | refine ab ?_ | refine av ?_); (try clear hK' K'); (try dsimp only [aop]); try simp only [go_sem, ↓reduceIte, Nat.reduceEqDiff, Nat.reduceLT, Nat.reduceLeDiff, Nat.reduceAdd, Nat.reduceSub, Nat.reduceMul, Nat.reduceBEq, Nat.reduceBNe, Nat.reducePow, Int.reduceToNat, Int.reduceLE, Int.reduceLT, Int.reduceMul, Int.reduceEq, Int.reducePow, Int.reduceAdd, Int.reduceSub, Int.reduceNeg, reduceCtorEq, aB, Tryd.results72]) | (with_reducible first | refine aj ?_ | refine ar ?_ | refine au ?_ | refine aT fun K hK => ?_ | refine aC ?_ | refine a8 ?_ | refine ax ?_ | refine aP ?_ | refine aF ?_) | (with_reducible refine hK _ ?_; clear hK K) | ((with_reducible refine al ?_ ?_); (· decide)) | (with_reducible refine aa (h1) ?_) | (with_reducible refine aa (h2) ?_) | (with_reducible refine aa (h3) ?_) | (with_reducible refine aa (h4) ?_) | (with_reducible refine aa (h5) ?_) | (with_reducible refine aa (h6) ?_) | (with_reducible refine aa (h7) ?_) | (with_reducible refine aa (h8) ?_) | (with_reducible refine aa (h9) ?_) | (with_reducible refine aa (h10) ?_) | (with_reducible refine aa (hq) ?_))
  all_goals first | rfl | exact ⟨rfl, rfl⟩
theorem pV : ∀ f, CoK 72 f (mV f)
  | 0 => fun s hs => absurd hs (Nat.not_lt_zero _)
  | f + 1 => tH (pV f) (gg f)
theorem ll (s : PS) : AFn Tryd.prog 62 [.loc 20000 0] [pA s] (.agg (coA (eF s).1)) [pA (eF s).2] :=
  pU (pV FU) (gg FU) s (dR s)
theorem oy (s : PS) : AFn Tryd.prog 58 [.loc 20000 0] [pA s] (.agg (coA (dS s).1)) [pA (dS s).2] :=
  kC (pV FU) (gg FU) s (Nat.lt_succ_of_lt (dR s)) (.inr (dR s))
end Go.Proofs.YtpkcgdikbjaoaaaDoor
