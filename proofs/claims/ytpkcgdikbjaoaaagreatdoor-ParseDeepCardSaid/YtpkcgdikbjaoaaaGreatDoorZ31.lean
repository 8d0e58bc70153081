/- The document's reader in K: statements. -/
import Derived.Test.YtpkcgdikbjaoaaaGreatDoorZ30
namespace Go.Proofs.YtpkcgdikbjaoaaaGreatDoor
set_option linter.unusedSimpArgs false
set_option linter.unusedVariables false
open Go.RowKit
def aE : Nat → List Nat
  | 0 => [0]
  | 1 => [0, 2]
  | 2 => [0, 2, 3]
  | 3 => [0, 2, 3, 4]
  | 4 => [0, 2, 3]
  | 5 => [0, 2, 3]
  | 6 => [0, 2, 3]
  | 7 => [0, 2, 3]
  | 8 => [2, 3]
  | 9 => [0, 2, 3, 4]
  | 10 => [0, 2, 3]
  | 11 => [0, 2, 3, 21]
  | 12 => [0, 2, 3]
  | 13 => [0, 2, 3, 21]
  | 14 => [0, 2, 3]
  | 15 => [0, 2, 3]
  | 16 => [0, 2, 3]
  | 17 => [0, 2, 3]
  | 18 => [0, 2, 3]
  | 19 => [0, 2, 3]
  | 20 => [0, 2, 3]
  | 21 => [0, 2, 3, 21]
  | 22 => [0, 2, 3]
  | 23 => [0, 2, 3]
  | 24 => [0, 2, 3]
  | 25 => [0, 2, 3]
  | 26 => [0, 2, 3]
  | 27 => [0, 2, 3, 21]
  | 28 => [0, 2, 3]
  | 29 => [0, 2, 3]
  | 30 => [0, 2, 3]
  | 31 => [0, 2, 3, 21]
  | 32 => [0, 2, 3]
  | 33 => [0, 2, 3, 21]
  | 34 => [0, 2, 3]
  | 35 => [0, 2, 3]
  | 36 => [0, 2, 3]
  | 37 => [0, 2, 3]
  | 38 => [0, 2, 3]
  | 39 => [0, 2, 3]
  | 40 => [2, 3]
  | 41 => [0, 2, 3, 21]
  | 42 => [0, 2, 3]
  | 43 => [0, 2, 3]
  | 44 => [0, 2, 3]
  | 45 => [0, 2, 3]
  | 46 => [0, 2, 3]
  | 47 => [0, 2, 3]
  | 48 => [2, 3]
  | 49 => [0, 2, 3]
  | 50 => [2, 3]
  | _ => []
set_option maxRecDepth 100000 in
set_option maxHeartbeats 16000000 in
theorem wR {B : Nat} {g : RS → List St × RS} (hg : RbK 18 B g) (hmu : ∀ r, (g r).2.mu ≤ r.mu) : RtK 44 (B + 1) (g6 g) := by
  intro r hs
  have h1 := eB r
  have hk := my r
  have hbw := dt r
  unfold g6
  by_cases hc : r.kind = 1
  · rw [if_pos hc]
    rw [hc] at hk
    have h2 := fq r 1 (by decide)
    generalize r.next = y at *
    simp only
    generalize r.text 1 = q at *
    obtain ⟨x, r1⟩ := q
    have h3 := dm r1 [58, 61] (by simp)
    simp only at h2 h3 ⊢
    generalize r1.eat [58, 61] = r2 at *
    have h4 := yX r2 0 x
    have ho := wl r2 x
    generalize r2.what x = q2 at *
    obtain ⟨⟨o1, o2, o3⟩, ⟨k, nm, fl, cl, ⟨ek, en, ex, eks⟩, ⟨vk, vn, vx, vks⟩, ⟨ck, ce, cks⟩, ⟨ak, ⟨ack, ace, acks⟩, ⟨aek, aen, aex, aeks⟩, ⟨avk, avn, avx, avks⟩, af, an, aks⟩, rs, gs, fs, bd0, el0⟩, r3⟩ := q2
    have h5 := dm r3 [59] (by simp)
    simp only at h5 ho ⊢
    generalize r3.eat [59] = r4 at *
    rcases ho with ho | ho | ho
    · simp only [Prod.mk.injEq] at ho
      obtain ⟨rfl, rfl, rfl⟩ := ho
      simp only [sA, stR, exA, coA, asA, exZ, coZ, asZ, cW, eV, gb, ez, List.cons_append, List.nil_append, List.map_nil, List.length_nil] at h4 ⊢
      refine dy (r := .agg (stR .full .full .full .full .full _)) ?_ 2 (eP (.inr rfl) (.inr rfl) (.inr rfl) (.inr rfl) (.inr rfl) _)
      refine aK [] Tryz.func44 rfl Tryz.ntmps44 (Nat.le_of_ble_eq_true rfl) (Nat.le_of_ble_eq_true rfl) fun w0 G0 B0 Pr hB0 => ?_
      simp only [aQ, aI, List.cons_append, List.nil_append]
      repeat' (first | (with_reducible refine hY _ ?_; clear hY Y) | ((with_reducible first | refine av rfl (aD fun K' hK' => ab ?_) | refine hK' _ (ac fun Y hY => ab ?_) | refine ac fun Y hY => ab ?_ | refine ae tk0 aE (ac fun Y hY => ab ?_) | refine ab ?_ | refine ap ?_); (try clear hK' K'); (try dsimp only [aop]); try simp only [go_sem, ↓reduceIte, Nat.reduceEqDiff, Nat.reduceLT, Nat.reduceLeDiff, Nat.reduceAdd, Nat.reduceSub, Nat.reduceMul, Nat.reduceBEq, Nat.reduceBNe, Nat.reducePow, Int.reduceToNat, Int.reduceLE, Int.reduceLT, Int.reduceMul, Int.reduceEq, Int.reducePow, Int.reduceAdd, Int.reduceSub, Int.reduceNeg, reduceCtorEq, aE, Tryz.results44]) | (with_reducible first | refine ai ?_ | refine al ?_ | refine am ?_ | refine aL fun K hK => ?_ | refine bg ?_ | refine az ?_) | (with_reducible refine hK _ ?_; clear hK K) | ((with_reducible refine ah ?_ ?_); (· decide)) | ((with_reducible refine bV (fun hc => ?_) (fun hc => ?_)) <;> (try simp only [decide_eq_true_eq, decide_eq_false_iff_not, Bool.not_true, Bool.not_false, Bool.not_eq_true', Bool.not_eq_false'] at hc) <;> (try (exfalso; omega))) | (with_reducible refine aa (h1) ?_) | (with_reducible refine aa (hk) ?_) | (with_reducible refine aa (h2) ?_) | (with_reducible refine aa (h3) ?_) | (with_reducible refine aa (h4) ?_) | (with_reducible refine aa (h5) ?_))
      all_goals first | rfl | exact ⟨rfl, rfl⟩
    · simp only [Prod.mk.injEq] at ho
      obtain ⟨rfl, rfl, rfl⟩ := ho
      simp only [sA, stR, exA, coA, asA, exZ, coZ, asZ, cW, eV, gb, ez, List.cons_append, List.nil_append, List.map_nil, List.length_nil] at h4 ⊢
      refine dy (r := .agg (stR .full .full .none .full .full _)) ?_ 2 (eP (.inr rfl) (.inr rfl) (.inl rfl) (.inr rfl) (.inr rfl) _)
      refine aK [] Tryz.func44 rfl Tryz.ntmps44 (Nat.le_of_ble_eq_true rfl) (Nat.le_of_ble_eq_true rfl) fun w0 G0 B0 Pr hB0 => ?_
      simp only [aQ, aI, List.cons_append, List.nil_append]
      repeat' (first | (with_reducible refine hY _ ?_; clear hY Y) | ((with_reducible first | refine av rfl (aD fun K' hK' => ab ?_) | refine hK' _ (ac fun Y hY => ab ?_) | refine ac fun Y hY => ab ?_ | refine ae tk0 aE (ac fun Y hY => ab ?_) | refine ab ?_ | refine ap ?_); (try clear hK' K'); (try dsimp only [aop]); try simp only [go_sem, ↓reduceIte, Nat.reduceEqDiff, Nat.reduceLT, Nat.reduceLeDiff, Nat.reduceAdd, Nat.reduceSub, Nat.reduceMul, Nat.reduceBEq, Nat.reduceBNe, Nat.reducePow, Int.reduceToNat, Int.reduceLE, Int.reduceLT, Int.reduceMul, Int.reduceEq, Int.reducePow, Int.reduceAdd, Int.reduceSub, Int.reduceNeg, reduceCtorEq, aE, Tryz.results44]) | (with_reducible first | refine ai ?_ | refine al ?_ | refine am ?_ | refine aL fun K hK => ?_ | refine bg ?_ | refine az ?_) | (with_reducible refine hK _ ?_; clear hK K) | ((with_reducible refine ah ?_ ?_); (· decide)) | ((with_reducible refine bV (fun hc => ?_) (fun hc => ?_)) <;> (try simp only [decide_eq_true_eq, decide_eq_false_iff_not, Bool.not_true, Bool.not_false, Bool.not_eq_true', Bool.not_eq_false'] at hc) <;> (try (exfalso; omega))) | (with_reducible refine aa (h1) ?_) | (with_reducible refine aa (hk) ?_) | (with_reducible refine aa (h2) ?_) | (with_reducible refine aa (h3) ?_) | (with_reducible refine aa (h4) ?_) | (with_reducible refine aa (h5) ?_))
      all_goals first | rfl | exact ⟨rfl, rfl⟩
    · simp only [Prod.mk.injEq] at ho
      obtain ⟨rfl, rfl, rfl⟩ := ho
      simp only [sA, stR, exA, coA, asA, exZ, coZ, asZ, cW, eV, gb, ez, List.cons_append, List.nil_append, List.map_nil, List.length_nil] at h4 ⊢
      refine dy (r := .agg (stR .none .none .full .full .full _)) ?_ 2 (eP (.inl rfl) (.inl rfl) (.inr rfl) (.inr rfl) (.inr rfl) _)
      refine aK [] Tryz.func44 rfl Tryz.ntmps44 (Nat.le_of_ble_eq_true rfl) (Nat.le_of_ble_eq_true rfl) fun w0 G0 B0 Pr hB0 => ?_
      simp only [aQ, aI, List.cons_append, List.nil_append]
      repeat' (first | (with_reducible refine hY _ ?_; clear hY Y) | ((with_reducible first | refine av rfl (aD fun K' hK' => ab ?_) | refine hK' _ (ac fun Y hY => ab ?_) | refine ac fun Y hY => ab ?_ | refine ae tk0 aE (ac fun Y hY => ab ?_) | refine ab ?_ | refine ap ?_); (try clear hK' K'); (try dsimp only [aop]); try simp only [go_sem, ↓reduceIte, Nat.reduceEqDiff, Nat.reduceLT, Nat.reduceLeDiff, Nat.reduceAdd, Nat.reduceSub, Nat.reduceMul, Nat.reduceBEq, Nat.reduceBNe, Nat.reducePow, Int.reduceToNat, Int.reduceLE, Int.reduceLT, Int.reduceMul, Int.reduceEq, Int.reducePow, Int.reduceAdd, Int.reduceSub, Int.reduceNeg, reduceCtorEq, aE, Tryz.results44]) | (with_reducible first | refine ai ?_ | refine al ?_ | refine am ?_ | refine aL fun K hK => ?_ | refine bg ?_ | refine az ?_) | (with_reducible refine hK _ ?_; clear hK K) | ((with_reducible refine ah ?_ ?_); (· decide)) | ((with_reducible refine bV (fun hc => ?_) (fun hc => ?_)) <;> (try simp only [decide_eq_true_eq, decide_eq_false_iff_not, Bool.not_true, Bool.not_false, Bool.not_eq_true', Bool.not_eq_false'] at hc) <;> (try (exfalso; omega))) | (with_reducible refine aa (h1) ?_) | (with_reducible refine aa (hk) ?_) | (with_reducible refine aa (h2) ?_) | (with_reducible refine aa (h3) ?_) | (with_reducible refine aa (h4) ?_) | (with_reducible refine aa (h5) ?_))
      all_goals first | rfl | exact ⟨rfl, rfl⟩
  rw [if_neg hc]
  have hk1 : ((r.kind : Int) = 1) = False := eq_false (by omega)
  generalize r.kind = kk at *
  clear hc
  by_cases hc : r.next = [115, 107, 105, 112]
  · rw [if_pos hc]
    obtain ⟨_, t, ht, _⟩ := cA (by simp) hc
    have hm1 := cO (by simp) hc
    have h2 := dm r.bump [59] (by simp)
    rw [cU ht] at h2
    generalize r.bump.eat [59] = r1 at *
    have xx0 : (r.next == [115, 107, 105, 112]) = true := by rw [hc]; rfl
    clear hc
    generalize r.next = y at *
    refine dy (r := .agg (stR .full .full .full .full .full _)) ?_ 2 (eP (.inr rfl) (.inr rfl) (.inr rfl) (.inr rfl) (.inr rfl) _)
    refine aK [] Tryz.func44 rfl Tryz.ntmps44 (Nat.le_of_ble_eq_true rfl) (Nat.le_of_ble_eq_true rfl) fun w0 G0 B0 Pr hB0 => ?_
    simp only [aQ, aI, List.cons_append, List.nil_append]
    repeat' (first | (with_reducible refine hY _ ?_; clear hY Y) | ((with_reducible first | refine av rfl (aD fun K' hK' => ab ?_) | refine hK' _ (ac fun Y hY => ab ?_) | refine ac fun Y hY => ab ?_ | refine ae tk0 aE (ac fun Y hY => ab ?_) | refine ab ?_ | refine ap ?_); (try clear hK' K'); (try dsimp only [aop]); try simp only [go_sem, ↓reduceIte, Nat.reduceEqDiff, Nat.reduceLT, Nat.reduceLeDiff, Nat.reduceAdd, Nat.reduceSub, Nat.reduceMul, Nat.reduceBEq, Nat.reduceBNe, Nat.reducePow, Int.reduceToNat, Int.reduceLE, Int.reduceLT, Int.reduceMul, Int.reduceEq, Int.reducePow, Int.reduceAdd, Int.reduceSub, Int.reduceNeg, reduceCtorEq, aE, Tryz.results44, hbw, hk1, xx0]) | (with_reducible first | refine ai ?_ | refine al ?_ | refine am ?_ | refine aL fun K hK => ?_ | refine ax ?_ | refine ar ?_ | refine aO ?_ | refine aq ?_ | refine aC ?_ | refine az ?_) | (with_reducible refine hK _ ?_; clear hK K) | ((with_reducible refine ah ?_ ?_); (· decide)) | (with_reducible refine aa (h1) ?_) | (with_reducible refine aa (hk) ?_) | (with_reducible refine aa (h2) ?_) | (with_reducible refine be (aU _) ?_))
    all_goals first | rfl | exact ⟨rfl, rfl⟩
  rw [if_neg hc]
  have xx0 : (r.next == [115, 107, 105, 112]) = false := by simpa using hc
  clear hc
  by_cases hc : r.next = [112, 117, 116]
  · rw [if_pos hc]
    obtain ⟨_, t, ht, _⟩ := cA (by simp) hc
    have hm1 := cO (by simp) hc
    have h2 := dX r.bump
    rw [cU ht] at h2
    simp only
    generalize cy r.bump = q at *
    obtain ⟨⟨ek0, en0, ex0, eks0⟩, r2⟩ := q
    have h3 := dm r2 [46] (by simp)
    simp only [exA] at h2 h3 ⊢
    generalize r2.eat [46] = r3 at *
    have h4 := fq r3 1 (by decide)
    generalize r3.text 1 = q2 at *
    obtain ⟨f0, r4⟩ := q2
    have h5 := dm r4 [58, 61] (by simp)
    simp only at h4 h5 ⊢
    generalize r4.eat [58, 61] = r5 at *
    have h6 := dX r5
    generalize cy r5 = q3 at *
    obtain ⟨⟨vk0, vn0, vx0, vks0⟩, r6⟩ := q3
    have h7 := dm r6 [59] (by simp)
    simp only [exA] at h6 h7 ⊢
    generalize r6.eat [59] = r7 at *
    have xx1 : (r.next == [112, 117, 116]) = true := by rw [hc]; rfl
    clear hc
    generalize r.next = y at *
    refine dy (r := .agg (stR .full .full .full .full .full _)) ?_ 2 (eP (.inr rfl) (.inr rfl) (.inr rfl) (.inr rfl) (.inr rfl) _)
    refine aK [] Tryz.func44 rfl Tryz.ntmps44 (Nat.le_of_ble_eq_true rfl) (Nat.le_of_ble_eq_true rfl) fun w0 G0 B0 Pr hB0 => ?_
    simp only [aQ, aI, List.cons_append, List.nil_append]
    repeat' (first | (with_reducible refine hY _ ?_; clear hY Y) | ((with_reducible first | refine av rfl (aD fun K' hK' => ab ?_) | refine hK' _ (ac fun Y hY => ab ?_) | refine ac fun Y hY => ab ?_ | refine ae tk0 aE (ac fun Y hY => ab ?_) | refine ab ?_ | refine ap ?_); (try clear hK' K'); (try dsimp only [aop]); try simp only [go_sem, ↓reduceIte, Nat.reduceEqDiff, Nat.reduceLT, Nat.reduceLeDiff, Nat.reduceAdd, Nat.reduceSub, Nat.reduceMul, Nat.reduceBEq, Nat.reduceBNe, Nat.reducePow, Int.reduceToNat, Int.reduceLE, Int.reduceLT, Int.reduceMul, Int.reduceEq, Int.reducePow, Int.reduceAdd, Int.reduceSub, Int.reduceNeg, reduceCtorEq, aE, Tryz.results44, hbw, hk1, xx0, xx1]) | (with_reducible first | refine ai ?_ | refine al ?_ | refine am ?_ | refine aL fun K hK => ?_ | refine ax ?_ | refine ar ?_ | refine aO ?_ | refine aq ?_ | refine aC ?_ | refine az ?_) | (with_reducible refine hK _ ?_; clear hK K) | ((with_reducible refine ah ?_ ?_); (· decide)) | (with_reducible refine aa (h1) ?_) | (with_reducible refine aa (hk) ?_) | (with_reducible refine aa (h2) ?_) | (with_reducible refine aa (h3) ?_) | (with_reducible refine aa (h4) ?_) | (with_reducible refine aa (h5) ?_) | (with_reducible refine aa (h6) ?_) | (with_reducible refine aa (h7) ?_) | (with_reducible refine be (aU _) ?_))
    all_goals first | rfl | exact ⟨rfl, rfl⟩
  rw [if_neg hc]
  have xx1 : (r.next == [112, 117, 116]) = false := by simpa using hc
  clear hc
  by_cases hc : r.next = [102, 114, 101, 101]
  · rw [if_pos hc]
    obtain ⟨_, t, ht, _⟩ := cA (by simp) hc
    have hm1 := cO (by simp) hc
    have h2 := dX r.bump
    rw [cU ht] at h2
    simp only
    generalize cy r.bump = q at *
    obtain ⟨⟨ek0, en0, ex0, eks0⟩, r2⟩ := q
    have h3 := dm r2 [46] (by simp)
    simp only [exA] at h2 h3 ⊢
    generalize r2.eat [46] = r3 at *
    have h4 := fq r3 1 (by decide)
    generalize r3.text 1 = q2 at *
    obtain ⟨f0, r4⟩ := q2
    have h5 := dm r4 [59] (by simp)
    simp only at h4 h5 ⊢
    generalize r4.eat [59] = r5 at *
    have xx2 : (r.next == [102, 114, 101, 101]) = true := by rw [hc]; rfl
    clear hc
    generalize r.next = y at *
    refine dy (r := .agg (stR .full .full .full .full .full _)) ?_ 2 (eP (.inr rfl) (.inr rfl) (.inr rfl) (.inr rfl) (.inr rfl) _)
    refine aK [] Tryz.func44 rfl Tryz.ntmps44 (Nat.le_of_ble_eq_true rfl) (Nat.le_of_ble_eq_true rfl) fun w0 G0 B0 Pr hB0 => ?_
    simp only [aQ, aI, List.cons_append, List.nil_append]
    repeat' (first | (with_reducible refine hY _ ?_; clear hY Y) | ((with_reducible first | refine av rfl (aD fun K' hK' => ab ?_) | refine hK' _ (ac fun Y hY => ab ?_) | refine ac fun Y hY => ab ?_ | refine ae tk0 aE (ac fun Y hY => ab ?_) | refine ab ?_ | refine ap ?_); (try clear hK' K'); (try dsimp only [aop]); try simp only [go_sem, ↓reduceIte, Nat.reduceEqDiff, Nat.reduceLT, Nat.reduceLeDiff, Nat.reduceAdd, Nat.reduceSub, Nat.reduceMul, Nat.reduceBEq, Nat.reduceBNe, Nat.reducePow, Int.reduceToNat, Int.reduceLE, Int.reduceLT, Int.reduceMul, Int.reduceEq, Int.reducePow, Int.reduceAdd, Int.reduceSub, Int.reduceNeg, reduceCtorEq, aE, Tryz.results44, hbw, hk1, xx0, xx1, xx2]) | (with_reducible first | refine ai ?_ | refine al ?_ | refine am ?_ | refine aL fun K hK => ?_ | refine ax ?_ | refine ar ?_ | refine aO ?_ | refine aq ?_ | refine aC ?_ | refine az ?_) | (with_reducible refine hK _ ?_; clear hK K) | ((with_reducible refine ah ?_ ?_); (· decide)) | (with_reducible refine aa (h1) ?_) | (with_reducible refine aa (hk) ?_) | (with_reducible refine aa (h2) ?_) | (with_reducible refine aa (h3) ?_) | (with_reducible refine aa (h4) ?_) | (with_reducible refine aa (h5) ?_) | (with_reducible refine be (aU _) ?_))
    all_goals first | rfl | exact ⟨rfl, rfl⟩
  rw [if_neg hc]
  have xx2 : (r.next == [102, 114, 101, 101]) = false := by simpa using hc
  clear hc
  by_cases hc : r.next = [97, 115, 115, 101, 114, 116]
  · rw [if_pos hc]
    obtain ⟨_, t, ht, _⟩ := cA (by simp) hc
    have hm1 := cO (by simp) hc
    have hm2 := eM r.bump
    have h2 := kA r.bump
    rw [cU ht] at h2
    simp only
    generalize ei r.bump = q at *
    obtain ⟨⟨k0, e0, ks0⟩, r2⟩ := q
    simp only [coA] at h2 hm2 ⊢
    have h3 := dm r2 [59] (by simp)
    generalize r2.eat [59] = r3 at *
    have xx3 : (r.next == [97, 115, 115, 101, 114, 116]) = true := by rw [hc]; rfl
    clear hc
    generalize r.next = y at *
    refine dy (r := .agg (stR .full .full .full .full .full _)) ?_ 2 (eP (.inr rfl) (.inr rfl) (.inr rfl) (.inr rfl) (.inr rfl) _)
    refine aK [] Tryz.func44 rfl Tryz.ntmps44 (Nat.le_of_ble_eq_true rfl) (Nat.le_of_ble_eq_true rfl) fun w0 G0 B0 Pr hB0 => ?_
    simp only [aQ, aI, List.cons_append, List.nil_append]
    repeat' (first | (with_reducible refine hY _ ?_; clear hY Y) | ((with_reducible first | refine av rfl (aD fun K' hK' => ab ?_) | refine hK' _ (ac fun Y hY => ab ?_) | refine ac fun Y hY => ab ?_ | refine ae tk0 aE (ac fun Y hY => ab ?_) | refine ab ?_ | refine ap ?_); (try clear hK' K'); (try dsimp only [aop]); try simp only [go_sem, ↓reduceIte, Nat.reduceEqDiff, Nat.reduceLT, Nat.reduceLeDiff, Nat.reduceAdd, Nat.reduceSub, Nat.reduceMul, Nat.reduceBEq, Nat.reduceBNe, Nat.reducePow, Int.reduceToNat, Int.reduceLE, Int.reduceLT, Int.reduceMul, Int.reduceEq, Int.reducePow, Int.reduceAdd, Int.reduceSub, Int.reduceNeg, reduceCtorEq, aE, Tryz.results44, hbw, hk1, xx0, xx1, xx2, xx3]) | (with_reducible first | refine ai ?_ | refine al ?_ | refine am ?_ | refine aL fun K hK => ?_ | refine ax ?_ | refine ar ?_ | refine aO ?_ | refine aq ?_ | refine aC ?_ | refine az ?_) | (with_reducible refine hK _ ?_; clear hK K) | ((with_reducible refine ah ?_ ?_); (· decide)) | (with_reducible refine aa (h1) ?_) | (with_reducible refine aa (hk) ?_) | (with_reducible refine aa (h2) ?_) | (with_reducible refine aa (h3) ?_) | (with_reducible refine be (aU _) ?_))
    all_goals first | rfl | exact ⟨rfl, rfl⟩
  rw [if_neg hc]
  have xx3 : (r.next == [97, 115, 115, 101, 114, 116]) = false := by simpa using hc
  clear hc
  by_cases hc : r.next = [99, 97, 108, 108]
  · rw [if_pos hc]
    have h2 := vB r 0 []
    simp only
    generalize r.call [] = q at *
    obtain ⟨⟨k, nm, fl, cl, ⟨ek, en, ex, eks⟩, ⟨vk, vn, vx, vks⟩, ⟨ck, ce, cks⟩, ⟨ak, ⟨ack, ace, acks⟩, ⟨aek, aen, aex, aeks⟩, ⟨avk, avn, avx, avks⟩, af, an, aks⟩, rs, gs, fs, bd0, el0⟩, r3⟩ := q
    have h3 := dm r3 [59] (by simp)
    simp only [sA, stR, exA, coA, asA, exZ, coZ, asZ, cW, eV, gb, ez, List.cons_append, List.nil_append, List.map_nil, List.length_nil] at h2 h3 ⊢
    generalize r3.eat [59] = r4 at *
    have xx4 : (r.next == [99, 97, 108, 108]) = true := by rw [hc]; rfl
    clear hc
    generalize r.next = y at *
    refine dy (r := .agg (stR .none .none .full .full .full _)) ?_ 2 (eP (.inl rfl) (.inl rfl) (.inr rfl) (.inr rfl) (.inr rfl) _)
    refine aK [] Tryz.func44 rfl Tryz.ntmps44 (Nat.le_of_ble_eq_true rfl) (Nat.le_of_ble_eq_true rfl) fun w0 G0 B0 Pr hB0 => ?_
    simp only [aQ, aI, List.cons_append, List.nil_append]
    repeat' (first | (with_reducible refine hY _ ?_; clear hY Y) | ((with_reducible first | refine av rfl (aD fun K' hK' => ab ?_) | refine hK' _ (ac fun Y hY => ab ?_) | refine ac fun Y hY => ab ?_ | refine ae tk0 aE (ac fun Y hY => ab ?_) | refine ab ?_ | refine ap ?_); (try clear hK' K'); (try dsimp only [aop]); try simp only [go_sem, ↓reduceIte, Nat.reduceEqDiff, Nat.reduceLT, Nat.reduceLeDiff, Nat.reduceAdd, Nat.reduceSub, Nat.reduceMul, Nat.reduceBEq, Nat.reduceBNe, Nat.reducePow, Int.reduceToNat, Int.reduceLE, Int.reduceLT, Int.reduceMul, Int.reduceEq, Int.reducePow, Int.reduceAdd, Int.reduceSub, Int.reduceNeg, reduceCtorEq, aE, Tryz.results44, hbw, hk1, xx0, xx1, xx2, xx3, xx4]) | (with_reducible first | refine ai ?_ | refine al ?_ | refine am ?_ | refine aL fun K hK => ?_ | refine ax ?_ | refine ar ?_ | refine aO ?_ | refine aq ?_ | refine aC ?_ | refine az ?_) | (with_reducible refine hK _ ?_; clear hK K) | ((with_reducible refine ah ?_ ?_); (· decide)) | (with_reducible refine aa (h1) ?_) | (with_reducible refine aa (hk) ?_) | (with_reducible refine aa (h2) ?_) | (with_reducible refine aa (h3) ?_) | (with_reducible refine be (aU _) ?_))
    all_goals first | rfl | exact ⟨rfl, rfl⟩
  rw [if_neg hc]
  have xx4 : (r.next == [99, 97, 108, 108]) = false := by simpa using hc
  clear hc
  by_cases hc : r.next = [105, 102]
  · rw [if_pos hc]
    obtain ⟨_, t, ht, _⟩ := cA (by simp) hc
    have hm1 := cO (by simp) hc
    have hm2 := eM r.bump
    have h2 := kA r.bump
    rw [cU ht] at h2
    simp only
    generalize ei r.bump = q at *
    obtain ⟨⟨k0, e0, ks0⟩, r2⟩ := q
    simp only [coA] at h2 hm2 ⊢
    have h3 := hg r2 (by omega)
    have hm3 := hmu r2
    generalize g r2 = q2 at *
    obtain ⟨bd, r3⟩ := q2
    have h4 := dm r3 [101, 108, 115, 101] (by simp)
    have hm4 := cr r3 [101, 108, 115, 101]
    simp only at h3 hm3 h4 hm4 ⊢
    generalize r3.eat [101, 108, 115, 101] = r4 at *
    have h5 := hg r4 (by omega)
    generalize g r4 = q3 at *
    obtain ⟨el, r5⟩ := q3
    simp only at h5 ⊢
    have xx5 : (r.next == [105, 102]) = true := by rw [hc]; rfl
    clear hc
    generalize r.next = y at *
    refine dy (r := .agg (stR .full .full .full .none .none _)) ?_ 2 (eP (.inr rfl) (.inr rfl) (.inr rfl) (.inl rfl) (.inl rfl) _)
    refine aK [] Tryz.func44 rfl Tryz.ntmps44 (Nat.le_of_ble_eq_true rfl) (Nat.le_of_ble_eq_true rfl) fun w0 G0 B0 Pr hB0 => ?_
    simp only [aQ, aI, List.cons_append, List.nil_append]
    repeat' (first | (with_reducible refine hY _ ?_; clear hY Y) | ((with_reducible first | refine av rfl (aD fun K' hK' => ab ?_) | refine hK' _ (ac fun Y hY => ab ?_) | refine ac fun Y hY => ab ?_ | refine ae tk0 aE (ac fun Y hY => ab ?_) | refine ab ?_ | refine ap ?_); (try clear hK' K'); (try dsimp only [aop]); try simp only [go_sem, ↓reduceIte, Nat.reduceEqDiff, Nat.reduceLT, Nat.reduceLeDiff, Nat.reduceAdd, Nat.reduceSub, Nat.reduceMul, Nat.reduceBEq, Nat.reduceBNe, Nat.reducePow, Int.reduceToNat, Int.reduceLE, Int.reduceLT, Int.reduceMul, Int.reduceEq, Int.reducePow, Int.reduceAdd, Int.reduceSub, Int.reduceNeg, reduceCtorEq, aE, Tryz.results44, hbw, hk1, xx0, xx1, xx2, xx3, xx4, xx5]) | (with_reducible first | refine ai ?_ | refine al ?_ | refine am ?_ | refine aL fun K hK => ?_ | refine ax ?_ | refine ar ?_ | refine bg ?_ | refine bL ?_ | refine aq ?_ | refine aC ?_ | refine az ?_) | (with_reducible refine hK _ ?_; clear hK K) | ((with_reducible refine ah ?_ ?_); (· decide)) | (with_reducible refine aa (h1) ?_) | (with_reducible refine aa (hk) ?_) | (with_reducible refine aa (h2) ?_) | (with_reducible refine aa (h3) ?_) | (with_reducible refine aa (h4) ?_) | (with_reducible refine aa (h5) ?_) | (with_reducible refine be (aU _) ?_))
    all_goals first | rfl | exact ⟨rfl, rfl⟩
  rw [if_neg hc]
  have xx5 : (r.next == [105, 102]) = false := by simpa using hc
  clear hc
  by_cases hc : r.next = [119, 104, 105, 108, 101]
  · rw [if_pos hc]
    obtain ⟨_, t, ht, _⟩ := cA (by simp) hc
    have hm1 := cO (by simp) hc
    have hm2 := eM r.bump
    have h2 := kA r.bump
    rw [cU ht] at h2
    simp only
    generalize ei r.bump = q at *
    obtain ⟨⟨k0, e0, ks0⟩, r2⟩ := q
    simp only [coA] at h2 hm2 ⊢
    have h3 := dm r2 [105, 110, 118, 97, 114, 105, 97, 110, 116] (by simp)
    have hm3 := cr r2 [105, 110, 118, 97, 114, 105, 97, 110, 116]
    generalize r2.eat [105, 110, 118, 97, 114, 105, 97, 110, 116] = r3 at *
    have h4 := pB r3
    have hm4 := jG r3
    generalize fj r3 = q2 at *
    obtain ⟨⟨ak, ⟨ack, ace, acks⟩, ⟨aek, aen, aex, aeks⟩, ⟨avk, avn, avx, avks⟩, af, an, aks⟩, r4⟩ := q2
    simp only at hm4 ⊢
    have h5 := hg r4 (by omega)
    generalize g r4 = q3 at *
    obtain ⟨bd, r5⟩ := q3
    simp only [asA, coA, exA, List.cons_append, List.nil_append] at h4 h5 ⊢
    have xx6 : (r.next == [119, 104, 105, 108, 101]) = true := by rw [hc]; rfl
    clear hc
    generalize r.next = y at *
    refine dy (r := .agg (stR .full .full .full .none .full _)) ?_ 2 (eP (.inr rfl) (.inr rfl) (.inr rfl) (.inl rfl) (.inr rfl) _)
    refine aK [] Tryz.func44 rfl Tryz.ntmps44 (Nat.le_of_ble_eq_true rfl) (Nat.le_of_ble_eq_true rfl) fun w0 G0 B0 Pr hB0 => ?_
    simp only [aQ, aI, List.cons_append, List.nil_append]
    repeat' (first | (with_reducible refine hY _ ?_; clear hY Y) | ((with_reducible first | refine av rfl (aD fun K' hK' => ab ?_) | refine hK' _ (ac fun Y hY => ab ?_) | refine ac fun Y hY => ab ?_ | refine ae tk0 aE (ac fun Y hY => ab ?_) | refine ab ?_ | refine ap ?_); (try clear hK' K'); (try dsimp only [aop]); try simp only [go_sem, ↓reduceIte, Nat.reduceEqDiff, Nat.reduceLT, Nat.reduceLeDiff, Nat.reduceAdd, Nat.reduceSub, Nat.reduceMul, Nat.reduceBEq, Nat.reduceBNe, Nat.reducePow, Int.reduceToNat, Int.reduceLE, Int.reduceLT, Int.reduceMul, Int.reduceEq, Int.reducePow, Int.reduceAdd, Int.reduceSub, Int.reduceNeg, reduceCtorEq, aE, Tryz.results44, hbw, hk1, xx0, xx1, xx2, xx3, xx4, xx5, xx6]) | (with_reducible first | refine ai ?_ | refine al ?_ | refine am ?_ | refine aL fun K hK => ?_ | refine ax ?_ | refine ar ?_ | refine bg ?_ | refine bL ?_ | refine aq ?_ | refine aC ?_ | refine az ?_) | (with_reducible refine hK _ ?_; clear hK K) | ((with_reducible refine ah ?_ ?_); (· decide)) | (with_reducible refine aa (h1) ?_) | (with_reducible refine aa (hk) ?_) | (with_reducible refine aa (h2) ?_) | (with_reducible refine aa (h3) ?_) | (with_reducible refine aa (h4) ?_) | (with_reducible refine aa (h5) ?_) | (with_reducible refine be (aU _) ?_))
    all_goals first | rfl | exact ⟨rfl, rfl⟩
  rw [if_neg hc]
  have xx6 : (r.next == [119, 104, 105, 108, 101]) = false := by simpa using hc
  clear hc
  have h2 := iw r 11
  generalize r.next = y at *
  generalize r.amiss 11 = r1 at *
  have h3 := dm r1 [59] (by simp)
  generalize r1.eat [59] = r2 at *
  refine dy (r := .agg (stR .full .full .full .full .full _)) ?_ 2 (eP (.inr rfl) (.inr rfl) (.inr rfl) (.inr rfl) (.inr rfl) _)
  refine aK [] Tryz.func44 rfl Tryz.ntmps44 (Nat.le_of_ble_eq_true rfl) (Nat.le_of_ble_eq_true rfl) fun w0 G0 B0 Pr hB0 => ?_
  simp only [aQ, aI, List.cons_append, List.nil_append]
  repeat' (first | (with_reducible refine hY _ ?_; clear hY Y) | ((with_reducible first | refine av rfl (aD fun K' hK' => ab ?_) | refine hK' _ (ac fun Y hY => ab ?_) | refine ac fun Y hY => ab ?_ | refine ae tk0 aE (ac fun Y hY => ab ?_) | refine ab ?_ | refine ap ?_); (try clear hK' K'); (try dsimp only [aop]); try simp only [go_sem, ↓reduceIte, Nat.reduceEqDiff, Nat.reduceLT, Nat.reduceLeDiff, Nat.reduceAdd, Nat.reduceSub, Nat.reduceMul, Nat.reduceBEq, Nat.reduceBNe, Nat.reducePow, Int.reduceToNat, Int.reduceLE, Int.reduceLT, Int.reduceMul, Int.reduceEq, Int.reducePow, Int.reduceAdd, Int.reduceSub, Int.reduceNeg, reduceCtorEq, aE, Tryz.results44, hk1, xx0, xx1, xx2, xx3, xx4, xx5, xx6]) | (with_reducible first | refine ai ?_ | refine al ?_ | refine am ?_ | refine aL fun K hK => ?_ | refine ar ?_ | refine aO ?_ | refine aq ?_ | refine aC ?_ | refine az ?_) | (with_reducible refine hK _ ?_; clear hK K) | ((with_reducible refine ah ?_ ?_); (· decide)) | (with_reducible refine aa (h1) ?_) | (with_reducible refine aa (hk) ?_) | (with_reducible refine aa (h2) ?_) | (with_reducible refine aa (h3) ?_) | (with_reducible refine be (aU _) ?_))
  all_goals first | rfl | exact ⟨rfl, rfl⟩
theorem ss : ∀ f, RtK 44 f (kc f)
  | 0 => fun s hs => absurd hs (Nat.not_lt_zero _)
  | f + 1 => wR (qV (ss f) (gv f) (oo f)) (ir (gv f))
theorem uA (r : RS) : AFn Tryz.prog 18 [.loc 20000 0] [rA r] (.sl (ez (gP r).1) (gP r).1.length .none) [rA (gP r).2] :=
  qV (ss FU) (gv FU) (oo FU) r (fS r)
end Go.Proofs.YtpkcgdikbjaoaaaGreatDoor
