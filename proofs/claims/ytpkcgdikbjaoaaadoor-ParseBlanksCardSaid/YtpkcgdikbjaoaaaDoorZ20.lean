/- The parser in K: blocks, statements. -/
import Derived.Test.YtpkcgdikbjaoaaaDoorZ19
namespace Go.Proofs.YtpkcgdikbjaoaaaDoor
set_option linter.unusedSimpArgs false
set_option linter.unusedVariables false
open Go.RowKit
def StK (f : FuncId) (B : Nat) (g : PS → St × PS) : Prop := ∀ s : PS, s.mu < B → AFn Tryd.prog f [.loc 20000 0] [pA s] (.agg (stW (g s).1)) [pA (g s).2]
def BkK (f : FuncId) (B : Nat) (g : PS → List St × PS) : Prop := ∀ s : PS, s.mu < B → AFn Tryd.prog f [.loc 20000 0] [pA s] (.sl (dz (g s).1) (g s).1.length .none) [pA (g s).2]
def a4 : Nat → List Nat
  | 0 => [0]
  | 1 => [0]
  | 2 => [0]
  | 3 => [0, 3]
  | 4 => [0, 3]
  | 5 => [0, 3]
  | 6 => [0, 3]
  | 7 => [3]
  | _ => []
set_option maxRecDepth 100000 in
set_option maxHeartbeats 8000000 in
theorem nt {B : Nat} {g : PS → St × PS} (hg : StK 47 B g) (hmu : ∀ s, (g s).2.mu ≤ s.mu) (hlt : ∀ s, s.mu < B → s.err = none → (g s).2.mu < s.mu) : BkK 28 B (eN g) := by
  intro s hs
  have h1 := jn s [123]
  have hm1 := dH s [123]
  unfold eN
  simp only
  generalize s.open' [123] = s1 at *
  obtain ⟨R, hR⟩ : ∃ R, R = dy g FU [] s1 := ⟨_, rfl⟩
  rw [← hR]
  have hm0 := dR s1
  refine aM [] Tryd.func28 rfl Tryd.ntmps28 (Nat.le_of_ble_eq_true rfl) (Nat.le_of_ble_eq_true rfl) fun w0 G0 B0 Pr hB0 => ?_
  simp only [aS, aJ, List.cons_append, List.nil_append]
  repeat' (first | (with_reducible refine hY _ ?_; clear hY Y) | ((with_reducible first | refine aD rfl (aN fun K' hK' => ab ?_) | refine hK' _ (ac fun Y hY => ab ?_) | refine ae tk0 a4 (ac fun Y hY => ab ?_) | refine ab ?_); (try clear hK' K'); (try dsimp only [aop]); try simp only [go_sem, ↓reduceIte, Nat.reduceEqDiff, Nat.reduceLT, Nat.reduceLeDiff, Nat.reduceAdd, Nat.reduceSub, Nat.reduceMul, Nat.reduceBEq, Nat.reduceBNe, Nat.reducePow, Int.reduceToNat, Int.reduceLE, Int.reduceLT, Int.reduceMul, Int.reduceEq, Int.reducePow, Int.reduceAdd, Int.reduceSub, Int.reduceNeg, reduceCtorEq, a4, Tryd.results28]) | (with_reducible first | refine aj ?_ | refine ar ?_ | refine au ?_ | refine aT fun K hK => ?_ | refine ax ?_ | refine bZ ?_) | (with_reducible refine hK _ ?_; clear hK K) | (with_reducible refine aa (h1) ?_))
  refine fB (iO (b := 10020) (t := 3) 51 (by decide) (by decide) rfl rfl) ?_
  refine b7 (α := Nat × List St × PS) (fun p => [(0, .loc 20000 0), (3, .sl (dz p.2.1) p.2.1.length (.tok 10020)), (10020, .bt p.2.1.length 51), (20000, pA p.2.2)])
    (fun p => dy g p.1 p.2.1 p.2.2 = R ∧ p.2.2.mu < p.1 ∧ p.2.2.mu < B ∧ p.2.1.length + p.1 ≤ 80000) (fun p => p.1) (FU, [], s1) [0, 3] ?_ ⟨hR.symm, hm0, Nat.lt_of_le_of_lt hm1 hs, (by simp [FU])⟩ ?_
  · simp only [go_sem, ↓reduceIte, Nat.reduceEqDiff, Nat.reduceLT, Nat.reduceLeDiff, Nat.reduceAdd, Nat.reduceSub, Nat.reduceMul, Nat.reduceBEq, Nat.reduceBNe, Nat.reducePow, Int.reduceToNat, Int.reduceLE, Int.reduceLT, Int.reduceMul, Int.reduceEq, Int.reducePow, Int.reduceAdd, Int.reduceSub, Int.reduceNeg, reduceCtorEq] <;> rfl
  rintro ⟨f, out, s2⟩ ⟨hgo, hmf, hmB, hlen⟩ ih
  simp only at ih hgo hmf hmB hlen ⊢
  clear hR
  obtain ⟨f, rfl⟩ : ∃ f', f = f' + 1 := ⟨f - 1, by omega⟩
  rw [dy] at hgo
  cases he : s2.err with
  | some x =>
    obtain ⟨a, e⟩ := x
    rw [he] at hgo
    simp only [Option.isNone_some, Bool.false_and, Bool.false_eq_true, if_false] at hgo
    subst hgo
    have h2 := bS s2 [125]
    have h3 := fd (s2.due [[125]])
    generalize s2.due [[125]] = s3 at *
    simp only [pA, he, eA] at h2 ⊢
    repeat' (first | (with_reducible refine hY _ ?_; clear hY Y) | ((with_reducible first | refine aD rfl (aN fun K' hK' => ab ?_) | refine hK' _ (ac fun Y hY => ab ?_) | refine bV rfl (ac fun Y hY => ab ?_) | refine ac fun Y hY => ab ?_ | refine ae tk0 a4 (ac fun Y hY => ab ?_) | refine ab ?_ | refine av ?_); (try clear hK' K'); (try dsimp only [aop]); try simp only [go_sem, ↓reduceIte, Nat.reduceEqDiff, Nat.reduceLT, Nat.reduceLeDiff, Nat.reduceAdd, Nat.reduceSub, Nat.reduceMul, Nat.reduceBEq, Nat.reduceBNe, Nat.reducePow, Int.reduceToNat, Int.reduceLE, Int.reduceLT, Int.reduceMul, Int.reduceEq, Int.reducePow, Int.reduceAdd, Int.reduceSub, Int.reduceNeg, reduceCtorEq, a4, Tryd.results28]) | (with_reducible first | refine aj ?_ | refine bW rfl ?_ | refine fa ?_ ?_ | refine ar ?_ | refine au ?_ | refine aT fun K hK => ?_ | refine aC ?_ | refine b3 ?_ | refine bG ?_ | refine aF ?_ | refine bH ?_) | (with_reducible refine hK _ ?_; clear hK K) | ((with_reducible first | refine bh ?_ ?_ | refine al ?_ ?_); (· decide)) | (with_reducible refine aa (h2) ?_) | (with_reducible refine aa (h3) ?_))
    all_goals first | rfl | exact ⟨rfl, rfl⟩
  | none =>
    rw [he] at hgo
    simp only [Option.isNone_none, Bool.true_and] at hgo
    cases hc : s2.is [125]
    case true =>
      rw [hc] at hgo
      simp only [Bool.not_true, Bool.false_eq_true, if_false] at hgo
      subst hgo
      have h1 := gq hc
      have h2 := bS s2 [125]
      have h3 := fd (s2.due [[125]])
      generalize s2.due [[125]] = s3 at *
      simp only [pA, he, b8] at h1 h2 ⊢
      repeat' (first | (with_reducible refine hY _ ?_; clear hY Y) | ((with_reducible first | refine aD rfl (aN fun K' hK' => ab ?_) | refine hK' _ (ac fun Y hY => ab ?_) | refine bV rfl (ac fun Y hY => ab ?_) | refine ac fun Y hY => ab ?_ | refine aN fun K' hK' => ab ?_ | refine ae tk0 a4 (ac fun Y hY => ab ?_) | refine ab ?_ | refine av ?_); (try clear hK' K'); (try dsimp only [aop]); try simp only [go_sem, ↓reduceIte, Nat.reduceEqDiff, Nat.reduceLT, Nat.reduceLeDiff, Nat.reduceAdd, Nat.reduceSub, Nat.reduceMul, Nat.reduceBEq, Nat.reduceBNe, Nat.reducePow, Int.reduceToNat, Int.reduceLE, Int.reduceLT, Int.reduceMul, Int.reduceEq, Int.reducePow, Int.reduceAdd, Int.reduceSub, Int.reduceNeg, reduceCtorEq, a4, Tryd.results28]) | (with_reducible first | refine aj ?_ | refine bl ?_ | refine ar ?_ | refine au ?_ | refine aT fun K hK => ?_ | refine aC ?_ | refine b3 ?_ | refine bG ?_ | refine aF ?_ | refine bH ?_) | (with_reducible refine hK _ ?_; clear hK K) | ((with_reducible first | refine bh ?_ ?_ | refine al ?_ ?_); (· decide)) | (with_reducible refine aa (h1) ?_) | (with_reducible refine aa (h2) ?_) | (with_reducible refine aa (h3) ?_) | (with_reducible refine bE (cP) ?_))
      all_goals first | rfl | exact ⟨rfl, rfl⟩
    case false =>
      rw [hc] at hgo
      simp only [Bool.not_false, if_true] at hgo
      have h1 := gP hc
      have h2 := hg s2 hmB
      have hm2 := hlt s2 hmB he
      generalize g s2 = q at *
      obtain ⟨⟨k, nm, fl, cl, ⟨ek, en, ex, eks⟩, ⟨vk, vn, vx, vks⟩, ⟨ck, ce, cks⟩, ⟨ak, ⟨ack, ace, acks⟩, ⟨aek, aen, aex, aeks⟩, ⟨avk, avn, avx, avks⟩, af, an, aks⟩, rs, gs, fs, bd0, el0⟩, s3⟩ := q
      simp only [stW, exA, coA, asA, List.cons_append, List.nil_append, List.map_cons, List.map_nil, wkA] at h2 hgo hm2
      simp only [pA, he, b8] at h1 h2 ⊢
      repeat' (first | (with_reducible refine hY _ ?_; clear hY Y) | ((with_reducible first | refine aD rfl (aN fun K' hK' => ab ?_) | refine hK' _ (ac fun Y hY => ab ?_) | refine bV rfl (ac fun Y hY => ab ?_) | refine ac fun Y hY => ab ?_ | refine aN fun K' hK' => ab ?_ | refine ae tk0 a4 (ac fun Y hY => ab ?_) | refine ab ?_); (try clear hK' K'); (try dsimp only [aop]); try simp only [go_sem, ↓reduceIte, Nat.reduceEqDiff, Nat.reduceLT, Nat.reduceLeDiff, Nat.reduceAdd, Nat.reduceSub, Nat.reduceMul, Nat.reduceBEq, Nat.reduceBNe, Nat.reducePow, Int.reduceToNat, Int.reduceLE, Int.reduceLT, Int.reduceMul, Int.reduceEq, Int.reducePow, Int.reduceAdd, Int.reduceSub, Int.reduceNeg, reduceCtorEq, a4, Tryd.results28, jA]) | (with_reducible first | refine aj ?_ | refine bl ?_ | refine ar ?_ | refine au ?_ | refine aT fun K hK => ?_ | refine aK ?_ | refine a8 ?_ | refine ax ?_ | refine aP ?_) | (with_reducible refine hK _ ?_; clear hK K) | ((with_reducible first | refine bh ?_ ?_ | refine al ?_ ?_); (· decide)) | (with_reducible refine bT ?_ ?_; (· (try and_intros) <;> first | omega | assumption | (simp only [List.length_append, List.length_map, List.length_cons, List.length_nil] <;> omega))) | (with_reducible refine aa (h1) ?_) | (with_reducible refine aa (h2) ?_) | (with_reducible refine bE (cP) ?_))
      refine bI [0, 3] (by simp only [go_sem, ↓reduceIte, Nat.reduceEqDiff, Nat.reduceLT, Nat.reduceLeDiff, Nat.reduceAdd, Nat.reduceSub, Nat.reduceMul, Nat.reduceBEq, Nat.reduceBNe, Nat.reducePow, Int.reduceToNat, Int.reduceLE, Int.reduceLT, Int.reduceMul, Int.reduceEq, Int.reducePow, Int.reduceAdd, Int.reduceSub, Int.reduceNeg, reduceCtorEq]; exact rfl) ?_
      refine et (ih (f, _, s3) ⟨hgo, by simp only; omega, by simp only; omega, (by simp only [List.length_append, List.length_cons, List.length_nil]; omega)⟩ (by simp only; omega)) ?_
      simp only [mg, dz, stW, exA, coA, asA, List.cons_append, List.nil_append, List.map_cons, List.map_nil, wkA, List.append_nil, List.length_append, List.length_cons, List.length_nil]
def ay : Nat → List Nat
  | 0 => [0]
  | 1 => [0, 2]
  | 2 => [0, 2, 3]
  | 3 => [0, 2, 3]
  | 4 => [0, 2, 3]
  | 5 => [0, 2, 3]
  | 6 => [0, 2, 3]
  | 7 => [0, 2, 3]
  | 8 => [0, 2, 3]
  | 9 => [0, 2, 3]
  | 10 => [0, 2, 3]
  | 11 => [0, 2, 3]
  | 12 => [0, 2, 3]
  | 13 => [0, 2, 3]
  | 14 => [0, 2, 3]
  | 15 => [0, 2, 3]
  | 16 => [0, 2, 3]
  | 17 => [0, 2, 3]
  | 18 => [0, 2, 3]
  | 19 => [0, 2, 3]
  | 20 => [0, 2, 3]
  | 21 => [0, 2, 3]
  | 22 => [0, 2, 3]
  | 23 => [2, 3]
  | 24 => [0, 2, 3]
  | 25 => [0, 2, 3]
  | 26 => [0, 2, 3]
  | 27 => [0, 2, 3]
  | 28 => [0, 2, 3]
  | 29 => [2, 3]
  | 30 => [0, 2, 3]
  | 31 => [2, 3]
  | _ => []
set_option maxRecDepth 100000 in
set_option maxHeartbeats 16000000 in
theorem sr {B : Nat} {g : PS → List St × PS} (hg : BkK 28 B g) (hmu : ∀ s, (g s).2.mu ≤ s.mu) : StK 47 (B + 1) (fC g) := by
  intro s hs
  unfold fC
  cases c1 : s.is [115, 107, 105, 112]
  case true =>
    simp only [if_true]
    have h1 := b0 c1
    have h2 := bS s.drop [59]
    generalize s.drop = s1 at *
    generalize s1.due [[59]] = s2 at *
    refine dr (r := .agg (stR .full .full .full .full .full _)) ?_ 2 (fx (.inr rfl) (.inr rfl) (.inr rfl) (.inr rfl) (.inr rfl) _)
    refine aM [] Tryd.func47 rfl Tryd.ntmps47 (Nat.le_of_ble_eq_true rfl) (Nat.le_of_ble_eq_true rfl) fun w0 G0 B0 Pr hB0 => ?_
    simp only [aS, aJ, List.cons_append, List.nil_append]
    repeat' (first | (with_reducible refine hY _ ?_; clear hY Y) | ((with_reducible first | refine aD rfl (aN fun K' hK' => ab ?_) | refine hK' _ (ac fun Y hY => ab ?_) | refine ac fun Y hY => ab ?_ | refine ae tk0 ay (ac fun Y hY => ab ?_) | refine ab ?_ | refine av ?_); (try clear hK' K'); (try dsimp only [aop]); try simp only [go_sem, ↓reduceIte, Nat.reduceEqDiff, Nat.reduceLT, Nat.reduceLeDiff, Nat.reduceAdd, Nat.reduceSub, Nat.reduceMul, Nat.reduceBEq, Nat.reduceBNe, Nat.reducePow, Int.reduceToNat, Int.reduceLE, Int.reduceLT, Int.reduceMul, Int.reduceEq, Int.reducePow, Int.reduceAdd, Int.reduceSub, Int.reduceNeg, reduceCtorEq, ay, Tryd.results47]) | (with_reducible first | refine aj ?_ | refine ar ?_ | refine au ?_ | refine aT fun K hK => ?_ | refine aK ?_ | refine a8 ?_ | refine ax ?_ | refine aP ?_ | refine aF ?_) | (with_reducible refine hK _ ?_; clear hK K) | ((with_reducible refine al ?_ ?_); (· decide)) | (with_reducible refine aa (h1) ?_) | (with_reducible refine aa (h2) ?_))
    all_goals first | rfl | exact ⟨rfl, rfl⟩
  simp only [Bool.false_eq_true, if_false]
  have h1 := cf c1
  cases c2 : s.is [112, 117, 116]
  case true =>
    simp only [if_true]
    have h2 := b0 c2
    have h3 := iR s.drop
    generalize s.drop = s1 at *
    generalize s1.place = q at *
    obtain ⟨⟨ek0, en0, ex0, eks0⟩, f0, s3⟩ := q
    have h4 := bS s3 [58, 61]
    simp only at h4 ⊢
    have h5 := dx (s3.due [[58, 61]])
    generalize s3.due [[58, 61]] = s4 at *
    generalize cb s4 = q2 at *
    obtain ⟨⟨vk0, vn0, vx0, vks0⟩, s5⟩ := q2
    have h6 := bS s5 [59]
    simp only [exA] at h3 h5 h6 ⊢
    generalize s5.due [[59]] = s6 at *
    refine dr (r := .agg (stR .full .full .full .full .full _)) ?_ 2 (fx (.inr rfl) (.inr rfl) (.inr rfl) (.inr rfl) (.inr rfl) _)
    refine aM [] Tryd.func47 rfl Tryd.ntmps47 (Nat.le_of_ble_eq_true rfl) (Nat.le_of_ble_eq_true rfl) fun w0 G0 B0 Pr hB0 => ?_
    simp only [aS, aJ, List.cons_append, List.nil_append]
    repeat' (first | (with_reducible refine hY _ ?_; clear hY Y) | ((with_reducible first | refine aD rfl (aN fun K' hK' => ab ?_) | refine hK' _ (ac fun Y hY => ab ?_) | refine ac fun Y hY => ab ?_ | refine ae tk0 ay (ac fun Y hY => ab ?_) | refine ab ?_ | refine av ?_); (try clear hK' K'); (try dsimp only [aop]); try simp only [go_sem, ↓reduceIte, Nat.reduceEqDiff, Nat.reduceLT, Nat.reduceLeDiff, Nat.reduceAdd, Nat.reduceSub, Nat.reduceMul, Nat.reduceBEq, Nat.reduceBNe, Nat.reducePow, Int.reduceToNat, Int.reduceLE, Int.reduceLT, Int.reduceMul, Int.reduceEq, Int.reducePow, Int.reduceAdd, Int.reduceSub, Int.reduceNeg, reduceCtorEq, ay, Tryd.results47]) | (with_reducible first | refine aj ?_ | refine ar ?_ | refine au ?_ | refine aT fun K hK => ?_ | refine aK ?_ | refine aC ?_ | refine a8 ?_ | refine ax ?_ | refine aF ?_) | (with_reducible refine hK _ ?_; clear hK K) | ((with_reducible refine al ?_ ?_); (· decide)) | (with_reducible refine aa (h1) ?_) | (with_reducible refine aa (h2) ?_) | (with_reducible refine aa (h3) ?_) | (with_reducible refine aa (h4) ?_) | (with_reducible refine aa (h5) ?_) | (with_reducible refine aa (h6) ?_))
    all_goals first | rfl | exact ⟨rfl, rfl⟩
  simp only [Bool.false_eq_true, if_false]
  have h2 := cf c2
  cases c3 : s.is [102, 114, 101, 101]
  case true =>
    simp only [if_true]
    have h3 := b0 c3
    have h4 := iR s.drop
    generalize s.drop = s1 at *
    generalize s1.place = q at *
    obtain ⟨⟨ek0, en0, ex0, eks0⟩, f0, s3⟩ := q
    have h5 := bS s3 [59]
    simp only [exA] at h4 h5 ⊢
    generalize s3.due [[59]] = s4 at *
    refine dr (r := .agg (stR .full .full .full .full .full _)) ?_ 2 (fx (.inr rfl) (.inr rfl) (.inr rfl) (.inr rfl) (.inr rfl) _)
    refine aM [] Tryd.func47 rfl Tryd.ntmps47 (Nat.le_of_ble_eq_true rfl) (Nat.le_of_ble_eq_true rfl) fun w0 G0 B0 Pr hB0 => ?_
    simp only [aS, aJ, List.cons_append, List.nil_append]
    repeat' (first | (with_reducible refine hY _ ?_; clear hY Y) | ((with_reducible first | refine aD rfl (aN fun K' hK' => ab ?_) | refine hK' _ (ac fun Y hY => ab ?_) | refine ac fun Y hY => ab ?_ | refine ae tk0 ay (ac fun Y hY => ab ?_) | refine ab ?_ | refine av ?_); (try clear hK' K'); (try dsimp only [aop]); try simp only [go_sem, ↓reduceIte, Nat.reduceEqDiff, Nat.reduceLT, Nat.reduceLeDiff, Nat.reduceAdd, Nat.reduceSub, Nat.reduceMul, Nat.reduceBEq, Nat.reduceBNe, Nat.reducePow, Int.reduceToNat, Int.reduceLE, Int.reduceLT, Int.reduceMul, Int.reduceEq, Int.reducePow, Int.reduceAdd, Int.reduceSub, Int.reduceNeg, reduceCtorEq, ay, Tryd.results47]) | (with_reducible first | refine aj ?_ | refine ar ?_ | refine au ?_ | refine aT fun K hK => ?_ | refine aK ?_ | refine aC ?_ | refine a8 ?_ | refine ax ?_ | refine aF ?_) | (with_reducible refine hK _ ?_; clear hK K) | ((with_reducible refine al ?_ ?_); (· decide)) | (with_reducible refine aa (h1) ?_) | (with_reducible refine aa (h2) ?_) | (with_reducible refine aa (h3) ?_) | (with_reducible refine aa (h4) ?_) | (with_reducible refine aa (h5) ?_))
    all_goals first | rfl | exact ⟨rfl, rfl⟩
  simp only [Bool.false_eq_true, if_false]
  have h3 := cf c3
  cases c4 : s.is [97, 115, 115, 101, 114, 116]
  case true =>
    simp only [if_true]
    have h4 := b0 c4
    have h5 := ll s.drop
    generalize s.drop = s1 at *
    generalize eF s1 = q at *
    obtain ⟨⟨k0, e0, ks0⟩, s2⟩ := q
    have h6 := bS s2 [59]
    simp only [coA] at h5 h6 ⊢
    generalize s2.due [[59]] = s4 at *
    refine dr (r := .agg (stR .full .full .full .full .full _)) ?_ 2 (fx (.inr rfl) (.inr rfl) (.inr rfl) (.inr rfl) (.inr rfl) _)
    refine aM [] Tryd.func47 rfl Tryd.ntmps47 (Nat.le_of_ble_eq_true rfl) (Nat.le_of_ble_eq_true rfl) fun w0 G0 B0 Pr hB0 => ?_
    simp only [aS, aJ, List.cons_append, List.nil_append]
    repeat' (first | (with_reducible refine hY _ ?_; clear hY Y) | ((with_reducible first | refine aD rfl (aN fun K' hK' => ab ?_) | refine hK' _ (ac fun Y hY => ab ?_) | refine ac fun Y hY => ab ?_ | refine ae tk0 ay (ac fun Y hY => ab ?_) | refine ab ?_ | refine av ?_); (try clear hK' K'); (try dsimp only [aop]); try simp only [go_sem, ↓reduceIte, Nat.reduceEqDiff, Nat.reduceLT, Nat.reduceLeDiff, Nat.reduceAdd, Nat.reduceSub, Nat.reduceMul, Nat.reduceBEq, Nat.reduceBNe, Nat.reducePow, Int.reduceToNat, Int.reduceLE, Int.reduceLT, Int.reduceMul, Int.reduceEq, Int.reducePow, Int.reduceAdd, Int.reduceSub, Int.reduceNeg, reduceCtorEq, ay, Tryd.results47]) | (with_reducible first | refine aj ?_ | refine ar ?_ | refine au ?_ | refine aT fun K hK => ?_ | refine aK ?_ | refine aC ?_ | refine a8 ?_ | refine ax ?_ | refine aF ?_) | (with_reducible refine hK _ ?_; clear hK K) | ((with_reducible refine al ?_ ?_); (· decide)) | (with_reducible refine aa (h1) ?_) | (with_reducible refine aa (h2) ?_) | (with_reducible refine aa (h3) ?_) | (with_reducible refine aa (h4) ?_) | (with_reducible refine aa (h5) ?_) | (with_reducible refine aa (h6) ?_))
    all_goals first | rfl | exact ⟨rfl, rfl⟩
  simp only [Bool.false_eq_true, if_false]
  have h4 := cf c4
  cases c5 : s.is [99, 97, 108, 108]
  case true =>
    simp only [if_true]
    have h5 := gq c5
    have h6 := oV s
    generalize s.call = q at *
    obtain ⟨⟨k, nm, fl, cl, ⟨ek, en, ex, eks⟩, ⟨vk, vn, vx, vks⟩, ⟨ck, ce, cks⟩, ⟨ak, ⟨ack, ace, acks⟩, ⟨aek, aen, aex, aeks⟩, ⟨avk, avn, avx, avks⟩, af, an, aks⟩, rs, gs, fs, bd0, el0⟩, s3⟩ := q
    have h7 := bS s3 [59]
    simp only [stW, exA, coA, asA, List.cons_append, List.nil_append, List.map_cons, List.map_nil, wkA] at h6 h7 ⊢
    generalize s3.due [[59]] = s4 at *
    refine aM [] Tryd.func47 rfl Tryd.ntmps47 (Nat.le_of_ble_eq_true rfl) (Nat.le_of_ble_eq_true rfl) fun w0 G0 B0 Pr hB0 => ?_
    simp only [aS, aJ, List.cons_append, List.nil_append]
    repeat' (first | (with_reducible refine hY _ ?_; clear hY Y) | ((with_reducible first | refine aD rfl (aN fun K' hK' => ab ?_) | refine hK' _ (ac fun Y hY => ab ?_) | refine ac fun Y hY => ab ?_ | refine ae tk0 ay (ac fun Y hY => ab ?_) | refine ab ?_ | refine av ?_); (try clear hK' K'); (try dsimp only [aop]); try simp only [go_sem, ↓reduceIte, Nat.reduceEqDiff, Nat.reduceLT, Nat.reduceLeDiff, Nat.reduceAdd, Nat.reduceSub, Nat.reduceMul, Nat.reduceBEq, Nat.reduceBNe, Nat.reducePow, Int.reduceToNat, Int.reduceLE, Int.reduceLT, Int.reduceMul, Int.reduceEq, Int.reducePow, Int.reduceAdd, Int.reduceSub, Int.reduceNeg, reduceCtorEq, ay, Tryd.results47]) | (with_reducible first | refine aj ?_ | refine ar ?_ | refine au ?_ | refine aT fun K hK => ?_ | refine aK ?_ | refine aC ?_ | refine a8 ?_ | refine ax ?_ | refine aF ?_) | (with_reducible refine hK _ ?_; clear hK K) | ((with_reducible refine al ?_ ?_); (· decide)) | (with_reducible refine aa (h1) ?_) | (with_reducible refine aa (h2) ?_) | (with_reducible refine aa (h3) ?_) | (with_reducible refine aa (h4) ?_) | (with_reducible refine aa (h5) ?_) | (with_reducible refine aa (h6) ?_) | (with_reducible refine aa (h7) ?_))
    all_goals first | rfl | exact ⟨rfl, rfl⟩
  simp only [Bool.false_eq_true, if_false]
  have h5 := gP c5
  have h6 := mC s 1
  cases c6 : s.kind 1
  case true =>
    rw [c6] at h6
    simp only [if_true]
    have h7 := tV s
    generalize s.set = q at *
    obtain ⟨⟨k, nm, fl, cl, ⟨ek, en, ex, eks⟩, ⟨vk, vn, vx, vks⟩, ⟨ck, ce, cks⟩, ⟨ak, ⟨ack, ace, acks⟩, ⟨aek, aen, aex, aeks⟩, ⟨avk, avn, avx, avks⟩, af, an, aks⟩, rs, gs, fs, bd0, el0⟩, s3⟩ := q
    have h8 := bS s3 [59]
    simp only [stW, exA, coA, asA, List.cons_append, List.nil_append, List.map_cons, List.map_nil, wkA] at h7 h8 ⊢
    generalize s3.due [[59]] = s4 at *
    refine aM [] Tryd.func47 rfl Tryd.ntmps47 (Nat.le_of_ble_eq_true rfl) (Nat.le_of_ble_eq_true rfl) fun w0 G0 B0 Pr hB0 => ?_
    simp only [aS, aJ, List.cons_append, List.nil_append]
    repeat' (first | (with_reducible refine hY _ ?_; clear hY Y) | ((with_reducible first | refine aD rfl (aN fun K' hK' => ab ?_) | refine hK' _ (ac fun Y hY => ab ?_) | refine ac fun Y hY => ab ?_ | refine ae tk0 ay (ac fun Y hY => ab ?_) | refine ab ?_ | refine av ?_); (try clear hK' K'); (try dsimp only [aop]); try simp only [go_sem, ↓reduceIte, Nat.reduceEqDiff, Nat.reduceLT, Nat.reduceLeDiff, Nat.reduceAdd, Nat.reduceSub, Nat.reduceMul, Nat.reduceBEq, Nat.reduceBNe, Nat.reducePow, Int.reduceToNat, Int.reduceLE, Int.reduceLT, Int.reduceMul, Int.reduceEq, Int.reducePow, Int.reduceAdd, Int.reduceSub, Int.reduceNeg, reduceCtorEq, ay, Tryd.results47]) | (with_reducible first | refine aj ?_ | refine ar ?_ | refine au ?_ | refine aT fun K hK => ?_ | refine aK ?_ | refine aC ?_ | refine a8 ?_ | refine ax ?_ | refine aF ?_) | (with_reducible refine hK _ ?_; clear hK K) | ((with_reducible refine al ?_ ?_); (· decide)) | (with_reducible refine aa (h1) ?_) | (with_reducible refine aa (h2) ?_) | (with_reducible refine aa (h3) ?_) | (with_reducible refine aa (h4) ?_) | (with_reducible refine aa (h5) ?_) | (with_reducible refine aa (h6) ?_) | (with_reducible refine aa (h7) ?_) | (with_reducible refine aa (h8) ?_))
    all_goals first | rfl | exact ⟨rfl, rfl⟩
  rw [c6] at h6
  simp only [Bool.false_eq_true, if_false]
  cases c7 : s.is [105, 102]
  case true =>
    simp only [if_true]
    have h7 := b0 c7
    have hm1 := bB c7
    have h8 := ll s.drop
    have hm2 := cV s.drop
    generalize s.drop = s1 at *
    generalize eF s1 = q at *
    obtain ⟨⟨k0, e0, ks0⟩, s2⟩ := q
    simp only at hm2 h8 ⊢
    have h9 := hg s2 (by omega)
    have hm3 := hmu s2
    generalize g s2 = q2 at *
    obtain ⟨bd, s3⟩ := q2
    have h10 := bS s3 [101, 108, 115, 101]
    have hm4 := bi [[101, 108, 115, 101]] s3
    simp only at hm3 hm4 h9 h10 ⊢
    generalize s3.due [[101, 108, 115, 101]] = s4 at *
    have h11 := hg s4 (by omega)
    generalize g s4 = q3 at *
    obtain ⟨el, s5⟩ := q3
    simp only [coA] at h8 h11 ⊢
    refine dr (r := .agg (stR .full .full .full .none .none _)) ?_ 2 (fx (.inr rfl) (.inr rfl) (.inr rfl) (.inl rfl) (.inl rfl) _)
    refine aM [] Tryd.func47 rfl Tryd.ntmps47 (Nat.le_of_ble_eq_true rfl) (Nat.le_of_ble_eq_true rfl) fun w0 G0 B0 Pr hB0 => ?_
    simp only [aS, aJ, List.cons_append, List.nil_append]
    repeat' (first | (with_reducible refine hY _ ?_; clear hY Y) | ((with_reducible first | refine aD rfl (aN fun K' hK' => ab ?_) | refine hK' _ (ac fun Y hY => ab ?_) | refine ac fun Y hY => ab ?_ | refine ae tk0 ay (ac fun Y hY => ab ?_) | refine ab ?_ | refine av ?_); (try clear hK' K'); (try dsimp only [aop]); try simp only [go_sem, ↓reduceIte, Nat.reduceEqDiff, Nat.reduceLT, Nat.reduceLeDiff, Nat.reduceAdd, Nat.reduceSub, Nat.reduceMul, Nat.reduceBEq, Nat.reduceBNe, Nat.reducePow, Int.reduceToNat, Int.reduceLE, Int.reduceLT, Int.reduceMul, Int.reduceEq, Int.reducePow, Int.reduceAdd, Int.reduceSub, Int.reduceNeg, reduceCtorEq, ay, Tryd.results47]) | (with_reducible first | refine aj ?_ | refine ar ?_ | refine au ?_ | refine aT fun K hK => ?_ | refine aK ?_ | refine aC ?_ | refine bA ?_ | refine b6 ?_ | refine ax ?_ | refine aF ?_) | (with_reducible refine hK _ ?_; clear hK K) | ((with_reducible refine al ?_ ?_); (· decide)) | (with_reducible refine aa (h1) ?_) | (with_reducible refine aa (h2) ?_) | (with_reducible refine aa (h3) ?_) | (with_reducible refine aa (h4) ?_) | (with_reducible refine aa (h5) ?_) | (with_reducible refine aa (h6) ?_) | (with_reducible refine aa (h7) ?_) | (with_reducible refine aa (h8) ?_) | (with_reducible refine aa (h9) ?_) | (with_reducible refine aa (h10) ?_) | (with_reducible refine aa (h11) ?_))
    all_goals first | rfl | exact ⟨rfl, rfl⟩
  simp only [Bool.false_eq_true, if_false]
  have h7 := cf c7
  cases c8 : s.is [119, 104, 105, 108, 101]
  case true =>
    simp only [if_true]
    have h8 := b0 c8
    have hm1 := bB c8
    have h9 := ll s.drop
    have hm2 := cV s.drop
    generalize s.drop = s1 at *
    generalize eF s1 = q at *
    obtain ⟨⟨k0, e0, ks0⟩, s2⟩ := q
    have h10 := bS s2 [105, 110, 118, 97, 114, 105, 97, 110, 116]
    have hm3 := bi [[105, 110, 118, 97, 114, 105, 97, 110, 116]] s2
    simp only at hm2 hm3 h9 h10 ⊢
    generalize s2.due [[105, 110, 118, 97, 114, 105, 97, 110, 116]] = s3 at *
    have h11 := mW s3
    have hm4 := fw s3
    generalize fA s3 = q2 at *
    obtain ⟨⟨ak, ⟨ack, ace, acks⟩, ⟨aek, aen, aex, aeks⟩, ⟨avk, avn, avx, avks⟩, af, an, aks⟩, s4⟩ := q2
    simp only at hm4 ⊢
    have h12 := hg s4 (by omega)
    generalize g s4 = q3 at *
    obtain ⟨bd, s5⟩ := q3
    simp only [coA, asA, exA, List.cons_append, List.nil_append] at h9 h11 h12 ⊢
    refine dr (r := .agg (stR .full .full .full .none .full _)) ?_ 2 (fx (.inr rfl) (.inr rfl) (.inr rfl) (.inl rfl) (.inr rfl) _)
    refine aM [] Tryd.func47 rfl Tryd.ntmps47 (Nat.le_of_ble_eq_true rfl) (Nat.le_of_ble_eq_true rfl) fun w0 G0 B0 Pr hB0 => ?_
    simp only [aS, aJ, List.cons_append, List.nil_append]
    repeat' (first | (with_reducible refine hY _ ?_; clear hY Y) | ((with_reducible first | refine aD rfl (aN fun K' hK' => ab ?_) | refine hK' _ (ac fun Y hY => ab ?_) | refine ac fun Y hY => ab ?_ | refine ae tk0 ay (ac fun Y hY => ab ?_) | refine ab ?_ | refine av ?_); (try clear hK' K'); (try dsimp only [aop]); try simp only [go_sem, ↓reduceIte, Nat.reduceEqDiff, Nat.reduceLT, Nat.reduceLeDiff, Nat.reduceAdd, Nat.reduceSub, Nat.reduceMul, Nat.reduceBEq, Nat.reduceBNe, Nat.reducePow, Int.reduceToNat, Int.reduceLE, Int.reduceLT, Int.reduceMul, Int.reduceEq, Int.reducePow, Int.reduceAdd, Int.reduceSub, Int.reduceNeg, reduceCtorEq, ay, Tryd.results47]) | (with_reducible first | refine aj ?_ | refine ar ?_ | refine au ?_ | refine aT fun K hK => ?_ | refine aK ?_ | refine aC ?_ | refine bA ?_ | refine b6 ?_ | refine ax ?_ | refine aF ?_) | (with_reducible refine hK _ ?_; clear hK K) | ((with_reducible refine al ?_ ?_); (· decide)) | (with_reducible refine aa (h1) ?_) | (with_reducible refine aa (h2) ?_) | (with_reducible refine aa (h3) ?_) | (with_reducible refine aa (h4) ?_) | (with_reducible refine aa (h5) ?_) | (with_reducible refine aa (h6) ?_) | (with_reducible refine aa (h7) ?_) | (with_reducible refine aa (h8) ?_) | (with_reducible refine aa (h9) ?_) | (with_reducible refine aa (h10) ?_) | (with_reducible refine aa (h11) ?_) | (with_reducible refine aa (h12) ?_))
    all_goals first | rfl | exact ⟨rfl, rfl⟩
  simp only [Bool.false_eq_true, if_false]
  have h8 := cf c8
  have h9 := gA s 11
  have h10 := bS (s.fail 11) [59]
  generalize s.fail 11 = s1 at *
  generalize s1.due [[59]] = s2 at *
  refine dr (r := .agg (stR .full .full .full .full .full _)) ?_ 2 (fx (.inr rfl) (.inr rfl) (.inr rfl) (.inr rfl) (.inr rfl) _)
  refine aM [] Tryd.func47 rfl Tryd.ntmps47 (Nat.le_of_ble_eq_true rfl) (Nat.le_of_ble_eq_true rfl) fun w0 G0 B0 Pr hB0 => ?_
  simp only [aS, aJ, List.cons_append, List.nil_append]
  repeat' (first | (with_reducible refine hY _ ?_; clear hY Y) | ((with_reducible first | refine aD rfl (aN fun K' hK' => ab ?_) | refine hK' _ (ac fun Y hY => ab ?_) | refine ac fun Y hY => ab ?_ | refine ae tk0 ay (ac fun Y hY => ab ?_) | refine ab ?_ | refine av ?_); (try clear hK' K'); (try dsimp only [aop]); try simp only [go_sem, ↓reduceIte, Nat.reduceEqDiff, Nat.reduceLT, Nat.reduceLeDiff, Nat.reduceAdd, Nat.reduceSub, Nat.reduceMul, Nat.reduceBEq, Nat.reduceBNe, Nat.reducePow, Int.reduceToNat, Int.reduceLE, Int.reduceLT, Int.reduceMul, Int.reduceEq, Int.reducePow, Int.reduceAdd, Int.reduceSub, Int.reduceNeg, reduceCtorEq, ay, Tryd.results47]) | (with_reducible first | refine aj ?_ | refine ar ?_ | refine au ?_ | refine aT fun K hK => ?_ | refine aC ?_ | refine a8 ?_ | refine ax ?_ | refine aF ?_) | (with_reducible refine hK _ ?_; clear hK K) | ((with_reducible refine al ?_ ?_); (· decide)) | (with_reducible refine aa (h1) ?_) | (with_reducible refine aa (h2) ?_) | (with_reducible refine aa (h3) ?_) | (with_reducible refine aa (h4) ?_) | (with_reducible refine aa (h5) ?_) | (with_reducible refine aa (h6) ?_) | (with_reducible refine aa (h7) ?_) | (with_reducible refine aa (h8) ?_) | (with_reducible refine aa (h9) ?_) | (with_reducible refine aa (h10) ?_))
  all_goals first | rfl | exact ⟨rfl, rfl⟩
theorem mc : ∀ (f : Nat) (s : PS), s.mu < f → s.err = none → (jC f s).2.mu < s.mu
  | 0, s, h, _ => absurd h (Nat.not_lt_zero _)
  | f + 1, s, _, h => pe (fT (eL f)) h
theorem qt : ∀ f, StK 47 f (jC f)
  | 0 => fun s hs => absurd hs (Nat.not_lt_zero _)
  | f + 1 => sr (nt (qt f) (eL f) (mc f)) (fT (eL f))
theorem rT (s : PS) : AFn Tryd.prog 28 [.loc 20000 0] [pA s] (.sl (dz (eX s).1) (eX s).1.length .none) [pA (eX s).2] :=
  nt (qt FU) (eL FU) (mc FU) s (dR s)
end Go.Proofs.YtpkcgdikbjaoaaaDoor
