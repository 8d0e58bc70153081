/- The document's reader in K: assertions. -/
import Derived.Test.YtpkcgdikbjaoaaaGreatDoorZ28
import Derived.Test.YtpkcgdikbjaoaaaGreatDoorZ25
namespace Go.Proofs.YtpkcgdikbjaoaaaGreatDoor
set_option linter.unusedSimpArgs false
set_option linter.unusedVariables false
open Go.RowKit
def RaK (f : FuncId) (B : Nat) (g : RS → As × RS) : Prop := ∀ r : RS, r.mu < B → AFn Tryz.prog f [.loc 20000 0] [rA r] (.agg (asA (g r).1)) [rA (g r).2]
def cg : Nat → List Nat
  | 0 => [0]
  | 1 => [0, 2]
  | 2 => [0, 2, 3]
  | 3 => [0, 2, 3]
  | 4 => [0, 2, 3]
  | 5 => [0, 2, 3, 4]
  | 6 => [2, 3]
  | _ => []
set_option maxRecDepth 100000 in
set_option maxHeartbeats 8000000 in
theorem sY {B : Nat} {g : RS → As × RS} (hg : RaK 42 B g) (hmu : ∀ r, (g r).2.mu ≤ r.mu) : RaK 17 B (gE g) := by
  intro r hs
  obtain ⟨R, hR⟩ : ∃ R, R = gE g r := ⟨_, rfl⟩
  rw [← hR]
  unfold gE at hR
  have h1 := hg r hs
  have hm0 := fS (g r).2
  have hm1 := hmu r
  generalize g r = q at *
  obtain ⟨⟨ak, ⟨ack, ace, acks⟩, ⟨aek, aen, aex, aeks⟩, ⟨avk, avn, avx, avks⟩, af, an, aks⟩, r0⟩ := q
  simp only [asA, coA, exA, List.cons_append, List.nil_append] at h1
  refine aK [] Tryz.func17 rfl Tryz.ntmps17 (Nat.le_of_ble_eq_true rfl) (Nat.le_of_ble_eq_true rfl) fun w0 G0 B0 Pr hB0 => ?_
  simp only [aQ, aI, List.cons_append, List.nil_append]
  repeat' (first | (with_reducible refine hY _ ?_; clear hY Y) | ((with_reducible first | refine av rfl (aD fun K' hK' => ab ?_) | refine hK' _ (ac fun Y hY => ab ?_) | refine ae tk0 cg (ac fun Y hY => ab ?_) | refine ab ?_); (try clear hK' K'); (try dsimp only [aop]); try simp only [go_sem, ↓reduceIte, Nat.reduceEqDiff, Nat.reduceLT, Nat.reduceLeDiff, Nat.reduceAdd, Nat.reduceSub, Nat.reduceMul, Nat.reduceBEq, Nat.reduceBNe, Nat.reducePow, Int.reduceToNat, Int.reduceLE, Int.reduceLT, Int.reduceMul, Int.reduceEq, Int.reducePow, Int.reduceAdd, Int.reduceSub, Int.reduceNeg, reduceCtorEq, cg, Tryz.results17]) | (with_reducible first | refine ai ?_ | refine al ?_ | refine am ?_ | refine aL fun K hK => ?_ | refine aq ?_ | refine bx ?_) | (with_reducible refine hK _ ?_; clear hK K) | (with_reducible refine aa (h1) ?_))
  refine cw (α := Nat × As × RS) (fun p => [(0, .loc 20000 0), (2, .loc 10002 0), (3, .loc 10003 0), (10002, .bc (asA asZ) 45), (10003, .bc (asA p.2.1) 45), (20000, rA p.2.2)])
    (fun p => fL [38] (fun a b => .mk 4 coZ exZ exZ [] 0 [a, b]) g p.1 p.2.1 p.2.2 = R ∧ p.2.2.mu < p.1 ∧ p.2.2.mu < B) (fun p => p.1) (FU, .mk ak (.mk ack ace acks) (.mk aek aen aex aeks) (.mk avk avn avx avks) af an aks, r0) [0, 2, 3] ?_ ⟨hR.symm, hm0, Nat.lt_of_le_of_lt hm1 hs⟩ ?_
  · simp only [go_sem, ↓reduceIte, Nat.reduceEqDiff, Nat.reduceLT, Nat.reduceLeDiff, Nat.reduceAdd, Nat.reduceSub, Nat.reduceMul, Nat.reduceBEq, Nat.reduceBNe, Nat.reducePow, Int.reduceToNat, Int.reduceLE, Int.reduceLT, Int.reduceMul, Int.reduceEq, Int.reducePow, Int.reduceAdd, Int.reduceSub, Int.reduceNeg, reduceCtorEq] <;> rfl
  rintro ⟨f, ⟨bk, ⟨bck, bce, bcks⟩, ⟨bek, ben, bex, beks⟩, ⟨bvk, bvn, bvx, bvks⟩, bf, bn, bks⟩, r1⟩ ⟨hgo, hmf, hmB⟩ ih
  simp only [asA, coA, exA, asZ, coZ, exZ, gb, eV, cW, List.cons_append, List.nil_append] at ih hgo hmf hmB ⊢
  obtain ⟨f, rfl⟩ : ∃ f', f = f' + 1 := ⟨f - 1, by omega⟩
  rw [fL] at hgo
  have h3 := eB r1
  by_cases hc : r1.next = [38]
  · obtain ⟨_, t, ht, _⟩ := cA (by simp) hc
    have hm2 := cO (by simp) hc
    have hm3 := hmu r1.bump
    have h4 := hg r1.bump (by omega)
    have hbw := dt r1
    rw [if_pos hc] at hgo
    rw [hc] at h3
    rw [cU ht] at h4
    generalize g r1.bump = q2 at *
    obtain ⟨⟨ck, ⟨cck, cce, ccks⟩, ⟨cek, cen, cex, ceks⟩, ⟨cvk, cvn, cvx, cvks⟩, cf, cn, cks⟩, r2⟩ := q2
    simp only [asA, coA, exA, List.cons_append, List.nil_append] at h4 hgo hm3
    repeat' (first | (with_reducible refine hY _ ?_; clear hY Y) | ((with_reducible first | refine av rfl (aD fun K' hK' => ab ?_) | refine hK' _ (ac fun Y hY => ab ?_) | refine ac fun Y hY => ab ?_ | refine ae tk0 cg (ac fun Y hY => ab ?_) | refine ab ?_); (try clear hK' K'); (try dsimp only [aop]); try simp only [go_sem, ↓reduceIte, Nat.reduceEqDiff, Nat.reduceLT, Nat.reduceLeDiff, Nat.reduceAdd, Nat.reduceSub, Nat.reduceMul, Nat.reduceBEq, Nat.reduceBNe, Nat.reducePow, Int.reduceToNat, Int.reduceLE, Int.reduceLT, Int.reduceMul, Int.reduceEq, Int.reducePow, Int.reduceAdd, Int.reduceSub, Int.reduceNeg, reduceCtorEq, cg, Tryz.results17, hbw, beq_self_eq_true]) | (with_reducible first | refine ai ?_ | refine al ?_ | refine am ?_ | refine aL fun K hK => ?_ | refine ax ?_ | refine aO ?_ | refine aq ?_ | refine aC ?_) | (with_reducible refine hK _ ?_; clear hK K) | ((with_reducible refine ah ?_ ?_); (· decide)) | (with_reducible refine aa (h3) ?_) | (with_reducible refine aa (h4) ?_) | (with_reducible refine be (aU _) ?_))
    refine bA [0, 2, 3] (by simp only [go_sem, ↓reduceIte, Nat.reduceEqDiff, Nat.reduceLT, Nat.reduceLeDiff, Nat.reduceAdd, Nat.reduceSub, Nat.reduceMul, Nat.reduceBEq, Nat.reduceBNe, Nat.reducePow, Int.reduceToNat, Int.reduceLE, Int.reduceLT, Int.reduceMul, Int.reduceEq, Int.reducePow, Int.reduceAdd, Int.reduceSub, Int.reduceNeg, reduceCtorEq]; exact rfl) ?_
    refine dw (ih (f, _, r2) ⟨hgo, by simp only; omega, by simp only; omega⟩ (by simp only; omega)) ?_
    rfl
  · rw [if_neg hc] at hgo
    have hne : (r1.next == [38]) = false := by simpa using hc
    rw [← hgo]
    generalize r1.next = x at *
    repeat' (first | (with_reducible refine hY _ ?_; clear hY Y) | ((with_reducible first | refine av rfl (aD fun K' hK' => ab ?_) | refine hK' _ (ac fun Y hY => ab ?_) | refine ac fun Y hY => ab ?_ | refine ae tk0 cg (ac fun Y hY => ab ?_) | refine ab ?_ | refine ap ?_); (try clear hK' K'); (try dsimp only [aop]); try simp only [go_sem, ↓reduceIte, Nat.reduceEqDiff, Nat.reduceLT, Nat.reduceLeDiff, Nat.reduceAdd, Nat.reduceSub, Nat.reduceMul, Nat.reduceBEq, Nat.reduceBNe, Nat.reducePow, Int.reduceToNat, Int.reduceLE, Int.reduceLT, Int.reduceMul, Int.reduceEq, Int.reducePow, Int.reduceAdd, Int.reduceSub, Int.reduceNeg, reduceCtorEq, cg, Tryz.results17, hne]) | (with_reducible first | refine ai ?_ | refine al ?_ | refine am ?_ | refine aL fun K hK => ?_ | refine ar ?_ | refine bN ?_ | refine bo ?_ | refine az ?_ | refine bq ?_) | (with_reducible refine hK _ ?_; clear hK K) | ((with_reducible refine ah ?_ ?_); (· decide)) | (with_reducible refine aa (h3) ?_) | (with_reducible refine be (aU _) ?_))
    all_goals first | rfl | exact ⟨rfl, rfl⟩
def aW : Nat → List Nat
  | 0 => [0]
  | 1 => [0, 2]
  | 2 => [0, 2, 3]
  | 3 => [0, 2, 3, 4]
  | 4 => [0, 2, 3]
  | 5 => [0, 2, 3, 4, 10]
  | 6 => [0, 2, 3]
  | 7 => [0, 2, 3, 4, 10]
  | 8 => [0, 2, 3]
  | 9 => [0, 2, 3]
  | 10 => [0, 2, 3]
  | 11 => [0, 2, 3]
  | 12 => [0, 2, 3, 4, 10]
  | 13 => [0, 2, 3, 4, 10]
  | 14 => [0, 2, 3, 4]
  | 15 => [0, 2, 3, 4]
  | 16 => [0, 2, 3, 4]
  | 17 => [0, 2, 3, 4]
  | 18 => [0, 2, 3, 4]
  | 19 => [0, 2, 3, 4]
  | 20 => [0, 2, 3, 4]
  | 21 => [0, 2, 3, 4]
  | 22 => [0, 2, 3, 4]
  | 23 => [0, 2, 3]
  | 24 => [0, 2, 3]
  | 25 => [0, 2, 3]
  | 26 => [0, 2, 3]
  | 27 => [0, 2, 3, 10]
  | 28 => [0, 2, 3]
  | 29 => [0, 2, 3]
  | 30 => [0, 2, 3]
  | 31 => [0, 2, 3]
  | 32 => [0, 2, 3]
  | 33 => [0, 2, 3, 5]
  | 34 => [0, 2, 3, 5]
  | 35 => [0, 2, 3, 5]
  | 36 => [0, 2, 3, 5]
  | 37 => [0, 2, 3, 5, 6]
  | 38 => [2, 3, 5, 6]
  | 39 => [0, 2, 3, 10]
  | 40 => [0, 2, 3]
  | 41 => [0, 2, 3]
  | 42 => [0, 2, 3]
  | 43 => [2, 3]
  | _ => []
set_option maxRecDepth 100000 in
set_option maxHeartbeats 8000000 in
theorem xR {B : Nat} {g : RS → As × RS} (hg : RaK 42 B g) (hmu : ∀ r, (g r).2.mu ≤ r.mu) : RaK 42 (B + 1) (iG (gE g)) := by
  intro r hs
  have ha := sY hg hmu
  have hma := lk hmu
  generalize gE g = o at *
  unfold iG
  have h1 := eB r
  have hbw := dt r
  by_cases hc : r.next = [101, 109, 112]
  · rw [if_pos hc]
    obtain ⟨_, t, ht, _⟩ := cA (by simp) hc
    simp only [cU ht]
    have xx0 : (r.next == [101, 109, 112]) = true := by rw [hc]; rfl
    clear hc
    generalize r.next = x at *
    refine aK [] Tryz.func42 rfl Tryz.ntmps42 (Nat.le_of_ble_eq_true rfl) (Nat.le_of_ble_eq_true rfl) fun w0 G0 B0 Pr hB0 => ?_
    simp only [aQ, aI, List.cons_append, List.nil_append]
    repeat' (first | (with_reducible refine hY _ ?_; clear hY Y) | ((with_reducible first | refine av rfl (aD fun K' hK' => ab ?_) | refine hK' _ (ac fun Y hY => ab ?_) | refine ac fun Y hY => ab ?_ | refine ae tk0 aW (ac fun Y hY => ab ?_) | refine ab ?_ | refine ap ?_); (try clear hK' K'); (try dsimp only [aop]); try simp only [go_sem, ↓reduceIte, Nat.reduceEqDiff, Nat.reduceLT, Nat.reduceLeDiff, Nat.reduceAdd, Nat.reduceSub, Nat.reduceMul, Nat.reduceBEq, Nat.reduceBNe, Nat.reducePow, Int.reduceToNat, Int.reduceLE, Int.reduceLT, Int.reduceMul, Int.reduceEq, Int.reducePow, Int.reduceAdd, Int.reduceSub, Int.reduceNeg, reduceCtorEq, aW, Tryz.results42, hbw, xx0]) | (with_reducible first | refine ai ?_ | refine al ?_ | refine am ?_ | refine aL fun K hK => ?_ | refine ax ?_ | refine aO ?_ | refine aq ?_ | refine az ?_) | (with_reducible refine hK _ ?_; clear hK K) | ((with_reducible refine ah ?_ ?_); (· decide)) | (with_reducible refine aa (h1) ?_) | (with_reducible refine be (aU _) ?_))
    all_goals first | rfl | exact ⟨rfl, rfl⟩
  rw [if_neg hc]
  have xx0 : (r.next == [101, 109, 112]) = false := by simpa using hc
  clear hc
  by_cases hc : r.next = [91]
  · rw [if_pos hc]
    have h2 := gM r [91] (by simp)
    simp only
    generalize r.begin [91] = r1 at *
    have h3 := kA r1
    generalize ei r1 = q at *
    obtain ⟨⟨k0, e0, ks0⟩, r2⟩ := q
    have h4 := fO r2 [93] (by simp)
    simp only [coA] at h3 h4 ⊢
    generalize r2.finish [93] = r3 at *
    have xx1 : (r.next == [91]) = true := by rw [hc]; rfl
    clear hc
    generalize r.next = x at *
    refine aK [] Tryz.func42 rfl Tryz.ntmps42 (Nat.le_of_ble_eq_true rfl) (Nat.le_of_ble_eq_true rfl) fun w0 G0 B0 Pr hB0 => ?_
    simp only [aQ, aI, List.cons_append, List.nil_append]
    repeat' (first | (with_reducible refine hY _ ?_; clear hY Y) | ((with_reducible first | refine av rfl (aD fun K' hK' => ab ?_) | refine hK' _ (ac fun Y hY => ab ?_) | refine ac fun Y hY => ab ?_ | refine ae tk0 aW (ac fun Y hY => ab ?_) | refine ab ?_ | refine ap ?_); (try clear hK' K'); (try dsimp only [aop]); try simp only [go_sem, ↓reduceIte, Nat.reduceEqDiff, Nat.reduceLT, Nat.reduceLeDiff, Nat.reduceAdd, Nat.reduceSub, Nat.reduceMul, Nat.reduceBEq, Nat.reduceBNe, Nat.reducePow, Int.reduceToNat, Int.reduceLE, Int.reduceLT, Int.reduceMul, Int.reduceEq, Int.reducePow, Int.reduceAdd, Int.reduceSub, Int.reduceNeg, reduceCtorEq, aW, Tryz.results42, hbw, xx0, xx1]) | (with_reducible first | refine ai ?_ | refine al ?_ | refine am ?_ | refine aL fun K hK => ?_ | refine ax ?_ | refine ar ?_ | refine aO ?_ | refine aq ?_ | refine az ?_) | (with_reducible refine hK _ ?_; clear hK K) | ((with_reducible refine ah ?_ ?_); (· decide)) | (with_reducible refine aa (h1) ?_) | (with_reducible refine aa (h2) ?_) | (with_reducible refine aa (h3) ?_) | (with_reducible refine aa (h4) ?_) | (with_reducible refine be (aU _) ?_))
    all_goals first | rfl | exact ⟨rfl, rfl⟩
  rw [if_neg hc]
  have xx1 : (r.next == [91]) = false := by simpa using hc
  clear hc
  by_cases hc : r.next = [97, 99, 99]
  · rw [if_pos hc]
    obtain ⟨_, t, ht, _⟩ := cA (by simp) hc
    have h2 := dm r.bump [40] (by simp)
    rw [cU ht] at h2
    unfold RS.cell
    simp only [Bool.false_eq_true, if_false, if_true]
    generalize r.bump.eat [40] = r1 at *
    have h3 := dX r1
    generalize cy r1 = q at *
    obtain ⟨⟨ek0, en0, ex0, eks0⟩, r2⟩ := q
    have h4 := dm r2 [46] (by simp)
    simp only [exA] at h3 h4 ⊢
    generalize r2.eat [46] = r3 at *
    have h5 := fq r3 1 (by decide)
    generalize r3.text 1 = q2 at *
    obtain ⟨f0, r4⟩ := q2
    have h6 := dm r4 [44] (by simp)
    simp only at h5 h6 ⊢
    generalize r4.eat [44] = r5 at *
    have h7 := ik r5
    generalize r5.number = q3 at *
    obtain ⟨n0, r6⟩ := q3
    have h8 := dm r6 [41] (by simp)
    simp only at h7 h8 ⊢
    generalize r6.eat [41] = r7 at *
    have xp : (r.next == [112, 116, 115]) = false := by rw [hc]; rfl
    have xx2 : (r.next == [97, 99, 99]) = true := by rw [hc]; rfl
    clear hc
    generalize r.next = x at *
    refine aK [] Tryz.func42 rfl Tryz.ntmps42 (Nat.le_of_ble_eq_true rfl) (Nat.le_of_ble_eq_true rfl) fun w0 G0 B0 Pr hB0 => ?_
    simp only [aQ, aI, List.cons_append, List.nil_append]
    repeat' (first | (with_reducible refine hY _ ?_; clear hY Y) | ((with_reducible first | refine av rfl (aD fun K' hK' => ab ?_) | refine hK' _ (ac fun Y hY => ab ?_) | refine ac fun Y hY => ab ?_ | refine ae tk0 aW (ac fun Y hY => ab ?_) | refine ab ?_ | refine ap ?_); (try clear hK' K'); (try dsimp only [aop]); try simp only [go_sem, ↓reduceIte, Nat.reduceEqDiff, Nat.reduceLT, Nat.reduceLeDiff, Nat.reduceAdd, Nat.reduceSub, Nat.reduceMul, Nat.reduceBEq, Nat.reduceBNe, Nat.reducePow, Int.reduceToNat, Int.reduceLE, Int.reduceLT, Int.reduceMul, Int.reduceEq, Int.reducePow, Int.reduceAdd, Int.reduceSub, Int.reduceNeg, reduceCtorEq, aW, Tryz.results42, hbw, xx0, xx1, xx2, xp]) | (with_reducible first | refine ai ?_ | refine al ?_ | refine am ?_ | refine aL fun K hK => ?_ | refine ax ?_ | refine ar ?_ | refine aO ?_ | refine aq ?_ | refine aC ?_ | refine az ?_) | (with_reducible refine hK _ ?_; clear hK K) | ((with_reducible refine ah ?_ ?_); (· decide)) | (with_reducible refine aa (h1) ?_) | (with_reducible refine aa (h2) ?_) | (with_reducible refine aa (h3) ?_) | (with_reducible refine aa (h4) ?_) | (with_reducible refine aa (h5) ?_) | (with_reducible refine aa (h6) ?_) | (with_reducible refine aa (h7) ?_) | (with_reducible refine aa (h8) ?_) | (with_reducible refine be (aU _) ?_))
    all_goals first | rfl | exact ⟨rfl, rfl⟩
  rw [if_neg hc]
  have xx2 : (r.next == [97, 99, 99]) = false := by simpa using hc
  clear hc
  by_cases hc : r.next = [112, 116, 115]
  · rw [if_pos hc]
    obtain ⟨_, t, ht, _⟩ := cA (by simp) hc
    have h2 := dm r.bump [40] (by simp)
    rw [cU ht] at h2
    unfold RS.cell
    simp only [Bool.false_eq_true, if_false, if_true]
    generalize r.bump.eat [40] = r1 at *
    have h3 := dX r1
    generalize cy r1 = q at *
    obtain ⟨⟨ek0, en0, ex0, eks0⟩, r2⟩ := q
    have h4 := dm r2 [46] (by simp)
    simp only [exA] at h3 h4 ⊢
    generalize r2.eat [46] = r3 at *
    have h5 := fq r3 1 (by decide)
    generalize r3.text 1 = q2 at *
    obtain ⟨f0, r4⟩ := q2
    have h6 := dm r4 [44] (by simp)
    simp only at h5 h6 ⊢
    generalize r4.eat [44] = r5 at *
    have h7 := ik r5
    generalize r5.number = q3 at *
    obtain ⟨n0, r6⟩ := q3
    have h8 := dm r6 [44] (by simp)
    simp only at h7 h8 ⊢
    generalize r6.eat [44] = r7 at *
    have h9 := dX r7
    generalize cy r7 = q4 at *
    obtain ⟨⟨vk0, vn0, vx0, vks0⟩, r8⟩ := q4
    have h10 := dm r8 [41] (by simp)
    simp only [exA] at h9 h10 ⊢
    generalize r8.eat [41] = r9 at *
    have xx3 : (r.next == [112, 116, 115]) = true := by rw [hc]; rfl
    clear hc
    generalize r.next = x at *
    refine aK [] Tryz.func42 rfl Tryz.ntmps42 (Nat.le_of_ble_eq_true rfl) (Nat.le_of_ble_eq_true rfl) fun w0 G0 B0 Pr hB0 => ?_
    simp only [aQ, aI, List.cons_append, List.nil_append]
    repeat' (first | (with_reducible refine hY _ ?_; clear hY Y) | ((with_reducible first | refine av rfl (aD fun K' hK' => ab ?_) | refine hK' _ (ac fun Y hY => ab ?_) | refine ac fun Y hY => ab ?_ | refine ae tk0 aW (ac fun Y hY => ab ?_) | refine ab ?_ | refine ap ?_); (try clear hK' K'); (try dsimp only [aop]); try simp only [go_sem, ↓reduceIte, Nat.reduceEqDiff, Nat.reduceLT, Nat.reduceLeDiff, Nat.reduceAdd, Nat.reduceSub, Nat.reduceMul, Nat.reduceBEq, Nat.reduceBNe, Nat.reducePow, Int.reduceToNat, Int.reduceLE, Int.reduceLT, Int.reduceMul, Int.reduceEq, Int.reducePow, Int.reduceAdd, Int.reduceSub, Int.reduceNeg, reduceCtorEq, aW, Tryz.results42, hbw, xx0, xx1, xx2, xx3]) | (with_reducible first | refine ai ?_ | refine al ?_ | refine am ?_ | refine aL fun K hK => ?_ | refine ax ?_ | refine ar ?_ | refine aO ?_ | refine aq ?_ | refine az ?_) | (with_reducible refine hK _ ?_; clear hK K) | ((with_reducible refine ah ?_ ?_); (· decide)) | (with_reducible refine aa (h1) ?_) | (with_reducible refine aa (h2) ?_) | (with_reducible refine aa (h3) ?_) | (with_reducible refine aa (h4) ?_) | (with_reducible refine aa (h5) ?_) | (with_reducible refine aa (h6) ?_) | (with_reducible refine aa (h7) ?_) | (with_reducible refine aa (h8) ?_) | (with_reducible refine aa (h9) ?_) | (with_reducible refine aa (h10) ?_) | (with_reducible refine be (aU _) ?_))
    all_goals first | rfl | exact ⟨rfl, rfl⟩
  rw [if_neg hc]
  have xx3 : (r.next == [112, 116, 115]) = false := by simpa using hc
  clear hc
  by_cases hc : r.next = [105, 102]
  · rw [if_pos hc]
    obtain ⟨_, t, ht, _⟩ := cA (by simp) hc
    have hm1 := cO (by simp) hc
    have hm2 := eM r.bump
    have h2 := kA r.bump
    rw [cU ht] at h2
    unfold gj
    simp only
    generalize ei r.bump = q at *
    obtain ⟨⟨k0, e0, ks0⟩, r2⟩ := q
    have h3 := gM r2 [123] (by simp)
    have hm3 := eK r2 [123]
    simp only at hm2 h2 ⊢
    generalize r2.begin [123] = r3 at *
    have h4 := ha r3 (by omega)
    have hm4 := hma r3
    generalize o r3 = q2 at *
    obtain ⟨⟨xk, ⟨xck, xce, xcks⟩, ⟨xek, xen, xex, xeks⟩, ⟨xvk, xvn, xvx, xvks⟩, xf, xn, xks⟩, r4⟩ := q2
    have h5 := fO r4 [125] (by simp)
    have hm5 := fI r4 [125]
    simp only at hm4 h5 hm5 ⊢
    generalize r4.finish [125] = r5 at *
    have h6 := dm r5 [101, 108, 115, 101] (by simp)
    have hm6 := cr r5 [101, 108, 115, 101]
    generalize r5.eat [101, 108, 115, 101] = r6 at *
    have h7 := gM r6 [123] (by simp)
    have hm7 := eK r6 [123]
    generalize r6.begin [123] = r7 at *
    have h8 := ha r7 (by omega)
    generalize o r7 = q3 at *
    obtain ⟨⟨yk, ⟨yck, yce, ycks⟩, ⟨yek, yen, yex, yeks⟩, ⟨yvk, yvn, yvx, yvks⟩, yf, yn, yks⟩, r8⟩ := q3
    have h9 := fO r8 [125] (by simp)
    simp only [asA, coA, exA, List.cons_append, List.nil_append] at h2 h4 h8 h9 ⊢
    generalize r8.finish [125] = r9 at *
    have xx4 : (r.next == [105, 102]) = true := by rw [hc]; rfl
    clear hc
    generalize r.next = x at *
    refine aK [] Tryz.func42 rfl Tryz.ntmps42 (Nat.le_of_ble_eq_true rfl) (Nat.le_of_ble_eq_true rfl) fun w0 G0 B0 Pr hB0 => ?_
    simp only [aQ, aI, List.cons_append, List.nil_append]
    repeat' (first | (with_reducible refine hY _ ?_; clear hY Y) | ((with_reducible first | refine av rfl (aD fun K' hK' => ab ?_) | refine hK' _ (ac fun Y hY => ab ?_) | refine ac fun Y hY => ab ?_ | refine ae tk0 aW (ac fun Y hY => ab ?_) | refine ab ?_ | refine ap ?_); (try clear hK' K'); (try dsimp only [aop]); try simp only [go_sem, ↓reduceIte, Nat.reduceEqDiff, Nat.reduceLT, Nat.reduceLeDiff, Nat.reduceAdd, Nat.reduceSub, Nat.reduceMul, Nat.reduceBEq, Nat.reduceBNe, Nat.reducePow, Int.reduceToNat, Int.reduceLE, Int.reduceLT, Int.reduceMul, Int.reduceEq, Int.reducePow, Int.reduceAdd, Int.reduceSub, Int.reduceNeg, reduceCtorEq, aW, Tryz.results42, hbw, xx0, xx1, xx2, xx3, xx4]) | (with_reducible first | refine ai ?_ | refine al ?_ | refine am ?_ | refine aL fun K hK => ?_ | refine ax ?_ | refine ar ?_ | refine aO ?_ | refine aq ?_ | refine az ?_) | (with_reducible refine hK _ ?_; clear hK K) | ((with_reducible refine ah ?_ ?_); (· decide)) | (with_reducible refine aa (h1) ?_) | (with_reducible refine aa (h2) ?_) | (with_reducible refine aa (h3) ?_) | (with_reducible refine aa (h4) ?_) | (with_reducible refine aa (h5) ?_) | (with_reducible refine aa (h6) ?_) | (with_reducible refine aa (h7) ?_) | (with_reducible refine aa (h8) ?_) | (with_reducible refine aa (h9) ?_) | (with_reducible refine be (aU _) ?_))
    all_goals first | rfl | exact ⟨rfl, rfl⟩
  rw [if_neg hc]
  have xx4 : (r.next == [105, 102]) = false := by simpa using hc
  clear hc
  by_cases hc : r.next = [40]
  · rw [if_pos hc]
    have hm1 := gi (by simp) hc
    unfold gj
    simp only
    have h2 := gM r [40] (by simp)
    generalize r.begin [40] = r1 at *
    have h3 := ha r1 (by omega)
    generalize o r1 = q3 at *
    obtain ⟨⟨yk, ⟨yck, yce, ycks⟩, ⟨yek, yen, yex, yeks⟩, ⟨yvk, yvn, yvx, yvks⟩, yf, yn, yks⟩, r8⟩ := q3
    have h4 := fO r8 [41] (by simp)
    simp only [asA, coA, exA, List.cons_append, List.nil_append] at h3 h4 ⊢
    generalize r8.finish [41] = r9 at *
    have xx5 : (r.next == [40]) = true := by rw [hc]; rfl
    clear hc
    generalize r.next = x at *
    refine aK [] Tryz.func42 rfl Tryz.ntmps42 (Nat.le_of_ble_eq_true rfl) (Nat.le_of_ble_eq_true rfl) fun w0 G0 B0 Pr hB0 => ?_
    simp only [aQ, aI, List.cons_append, List.nil_append]
    repeat' (first | (with_reducible refine hY _ ?_; clear hY Y) | ((with_reducible first | refine av rfl (aD fun K' hK' => ab ?_) | refine hK' _ (ac fun Y hY => ab ?_) | refine ac fun Y hY => ab ?_ | refine ae tk0 aW (ac fun Y hY => ab ?_) | refine ab ?_ | refine ap ?_); (try clear hK' K'); (try dsimp only [aop]); try simp only [go_sem, ↓reduceIte, Nat.reduceEqDiff, Nat.reduceLT, Nat.reduceLeDiff, Nat.reduceAdd, Nat.reduceSub, Nat.reduceMul, Nat.reduceBEq, Nat.reduceBNe, Nat.reducePow, Int.reduceToNat, Int.reduceLE, Int.reduceLT, Int.reduceMul, Int.reduceEq, Int.reducePow, Int.reduceAdd, Int.reduceSub, Int.reduceNeg, reduceCtorEq, aW, Tryz.results42, hbw, xx0, xx1, xx2, xx3, xx4, xx5]) | (with_reducible first | refine ai ?_ | refine al ?_ | refine am ?_ | refine aL fun K hK => ?_ | refine ax ?_ | refine ar ?_ | refine aO ?_ | refine aq ?_ | refine az ?_) | (with_reducible refine hK _ ?_; clear hK K) | ((with_reducible refine ah ?_ ?_); (· decide)) | (with_reducible refine aa (h1) ?_) | (with_reducible refine aa (h2) ?_) | (with_reducible refine aa (h3) ?_) | (with_reducible refine aa (h4) ?_) | (with_reducible refine be (aU _) ?_))
    all_goals first | rfl | exact ⟨rfl, rfl⟩
  rw [if_neg hc]
  have xx5 : (r.next == [40]) = false := by simpa using hc
  clear hc
  have h2 := iw r 11
  generalize r.next = x at *
  generalize r.amiss 11 = r1 at *
  refine aK [] Tryz.func42 rfl Tryz.ntmps42 (Nat.le_of_ble_eq_true rfl) (Nat.le_of_ble_eq_true rfl) fun w0 G0 B0 Pr hB0 => ?_
  simp only [aQ, aI, List.cons_append, List.nil_append]
  repeat' (first | (with_reducible refine hY _ ?_; clear hY Y) | ((with_reducible first | refine av rfl (aD fun K' hK' => ab ?_) | refine hK' _ (ac fun Y hY => ab ?_) | refine ac fun Y hY => ab ?_ | refine ae tk0 aW (ac fun Y hY => ab ?_) | refine ab ?_ | refine ap ?_); (try clear hK' K'); (try dsimp only [aop]); try simp only [go_sem, ↓reduceIte, Nat.reduceEqDiff, Nat.reduceLT, Nat.reduceLeDiff, Nat.reduceAdd, Nat.reduceSub, Nat.reduceMul, Nat.reduceBEq, Nat.reduceBNe, Nat.reducePow, Int.reduceToNat, Int.reduceLE, Int.reduceLT, Int.reduceMul, Int.reduceEq, Int.reducePow, Int.reduceAdd, Int.reduceSub, Int.reduceNeg, reduceCtorEq, aW, Tryz.results42, xx0, xx1, xx2, xx3, xx4, xx5]) | (with_reducible first | refine ai ?_ | refine al ?_ | refine am ?_ | refine aL fun K hK => ?_ | refine ar ?_ | refine aO ?_ | refine aq ?_ | refine az ?_) | (with_reducible refine hK _ ?_; clear hK K) | ((with_reducible refine ah ?_ ?_); (· decide)) | (with_reducible refine aa (h1) ?_) | (with_reducible refine aa (h2) ?_) | (with_reducible refine be (aU _) ?_))
  all_goals first | rfl | exact ⟨rfl, rfl⟩
theorem rT : ∀ f, RaK 42 f (kU f)
  | 0 => fun s hs => absurd hs (Nat.not_lt_zero _)
  | f + 1 => xR (rT f) (jL f)
theorem pB (r : RS) : AFn Tryz.prog 17 [.loc 20000 0] [rA r] (.agg (asA (fj r).1)) [rA (fj r).2] :=
  sY (rT FU) (jL FU) r (fS r)
end Go.Proofs.YtpkcgdikbjaoaaaGreatDoor
