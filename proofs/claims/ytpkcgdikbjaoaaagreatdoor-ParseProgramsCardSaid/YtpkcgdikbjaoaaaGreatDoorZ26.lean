/- The document's reader in K: numbers, names, expressions. -/
import Derived.Test.YtpkcgdikbjaoaaaGreatDoorZ25
import Derived.Test.YtpkcgdikbjaoaaaGreatDoorZ14
namespace Go.Proofs.YtpkcgdikbjaoaaaGreatDoor
set_option linter.unusedSimpArgs false
set_option linter.unusedVariables false
open Go.RowKit
theorem wY (r : RS) : (∀ c ∈ (r.text 3).1, dF c = true) ∧ (r.text 3).1.length ≤ 10 := by
  unfold RS.text
  split
  · rename_i h
    obtain ⟨_, t, ht, hk⟩ := jb (by decide) h
    obtain ⟨h1, h2⟩ := eY ht
    have := (r.ok t (h2 ▸ List.getElem_mem h1)).2.1 hk
    rw [ht]
    exact this
  · exact ⟨fun c h => by simp at h, by simp⟩
def b0 : Nat → List Nat
  | 0 => [0]
  | 1 => [0]
  | 2 => [3]
  | 3 => [3, 4]
  | 4 => [3, 4, 5]
  | 5 => [3, 4, 5]
  | 6 => [3, 4, 5]
  | 7 => [4]
  | _ => []
set_option maxRecDepth 100000 in
set_option maxHeartbeats 4000000 in
theorem ik (r : RS) : AFn Tryz.prog 70 [.loc 20000 0] [rA r] (inA r.number.1) [rA r.number.2] := by
  have h1 := fq r 3 (by decide)
  obtain ⟨hd, hl⟩ := wY r
  unfold RS.number
  generalize r.text 3 = q at *
  obtain ⟨t, r1⟩ := q
  simp only at h1 hd hl ⊢
  refine aK [] Tryz.func70 rfl Tryz.ntmps70 (Nat.le_of_ble_eq_true rfl) (Nat.le_of_ble_eq_true rfl) fun w0 G0 B0 Pr hB0 => ?_
  simp only [aQ, aI, List.cons_append, List.nil_append]
  repeat' (first | (with_reducible refine hY _ ?_; clear hY Y) | ((with_reducible first | refine av rfl (aD fun K' hK' => ab ?_) | refine hK' _ (ac fun Y hY => ab ?_) | refine ae tk0 b0 (ac fun Y hY => ab ?_) | refine ab ?_); (try clear hK' K'); (try dsimp only [aop]); try simp only [go_sem, ↓reduceIte, Nat.reduceEqDiff, Nat.reduceLT, Nat.reduceLeDiff, Nat.reduceAdd, Nat.reduceSub, Nat.reduceMul, Nat.reduceBEq, Nat.reduceBNe, Nat.reducePow, Int.reduceToNat, Int.reduceLE, Int.reduceLT, Int.reduceMul, Int.reduceEq, Int.reducePow, Int.reduceAdd, Int.reduceSub, Int.reduceNeg, reduceCtorEq, b0, Tryz.results70]) | (with_reducible first | refine ai ?_ | refine al ?_ | refine am ?_ | refine aL fun K hK => ?_ | refine aq ?_ | refine bx ?_) | (with_reducible refine hK _ ?_; clear hK K) | (with_reducible refine aa (h1) ?_))
  refine cw (α := Nat) (fun k => [(3, bs t), (4, inA (im (t.take k))), (5, inA (k : Int)), (20000, rA r1)])
    (fun k => k ≤ t.length) (fun k => t.length - k) 0 [3, 4, 5] ?_ (Nat.zero_le _) ?_
  · simp only [go_sem, ↓reduceIte, Nat.reduceEqDiff, Nat.reduceLT, Nat.reduceLeDiff, Nat.reduceAdd, Nat.reduceSub, Nat.reduceMul, Nat.reduceBEq, Nat.reduceBNe, Nat.reducePow, Int.reduceToNat, Int.reduceLE, Int.reduceLT, Int.reduceMul, Int.reduceEq, Int.reducePow, Int.reduceAdd, Int.reduceSub, Int.reduceNeg, reduceCtorEq] <;> rfl
  intro k hk ih
  by_cases hlt : k < t.length
  · have hlt' : ((k : Int) < (t.length : Int)) = True := eq_true (by omega)
    have hkw : IntKind.i64.wrap ((k : Int) + 1) = ((k + 1 : Nat) : Int) := by rw [bO (by omega) (by omega)]; rfl
    have hat := gp hlt
    have hdg := oV (hd t[k] (List.getElem_mem _))
    have hb1 := kh hd k (by omega)
    have hb2 := qR (k := k) (by omega)
    have hnx := kZ hlt
    unfold g4 at hnx
    generalize t[k] = c at *
    generalize hn1 : im (t.take (k + 1)) = n1 at *
    generalize im (t.take k) = n0 at *
    have hw1 : IntKind.i64.wrap (10 * n0) = 10 * n0 := by rw [bO (by omega) (by omega)]
    have hw2 : IntKind.i64.wrap (c.toNat : Int) = (c.toNat : Int) := by rw [bO (by omega) (by omega)]
    have hw3 : IntKind.i64.wrap (10 * n0 + (c.toNat : Int)) = 10 * n0 + (c.toNat : Int) := by rw [bO (by omega) (by omega)]
    have hw4 : IntKind.i64.wrap (10 * n0 + (c.toNat : Int) - 48) = n1 := by rw [bO (by omega) (by omega)]; omega
    repeat' (first | (with_reducible refine hY _ ?_; clear hY Y) | ((with_reducible first | refine av rfl (aD fun K' hK' => ab ?_) | refine hK' _ (ac fun Y hY => ab ?_) | refine ac fun Y hY => ab ?_ | refine ae tk0 b0 (ac fun Y hY => ab ?_)); (try clear hK' K'); (try dsimp only [aop]); try simp only [go_sem, ↓reduceIte, Nat.reduceEqDiff, Nat.reduceLT, Nat.reduceLeDiff, Nat.reduceAdd, Nat.reduceSub, Nat.reduceMul, Nat.reduceBEq, Nat.reduceBNe, Nat.reducePow, Int.reduceToNat, Int.reduceLE, Int.reduceLT, Int.reduceMul, Int.reduceEq, Int.reducePow, Int.reduceAdd, Int.reduceSub, Int.reduceNeg, reduceCtorEq, b0, Tryz.results70, hlt', hkw, hat, hw1, hw2, hw3, hw4]) | (with_reducible first | refine ai ?_ | refine al ?_ | refine am ?_ | refine aL fun K hK => ?_ | refine ax ?_ | refine aO ?_ | refine aq ?_ | refine aC ?_) | (with_reducible refine hK _ ?_; clear hK K) | ((with_reducible refine ah ?_ ?_); (· decide)) | (with_reducible refine bQ ?_ ?_; (· (try and_intros) <;> first | omega | assumption | (simp only [List.length_append, List.length_map, List.length_cons, List.length_nil] <;> omega))))
    refine bA [3, 4, 5] (by simp only [go_sem, ↓reduceIte, Nat.reduceEqDiff, Nat.reduceLT, Nat.reduceLeDiff, Nat.reduceAdd, Nat.reduceSub, Nat.reduceMul, Nat.reduceBEq, Nat.reduceBNe, Nat.reducePow, Int.reduceToNat, Int.reduceLE, Int.reduceLT, Int.reduceMul, Int.reduceEq, Int.reducePow, Int.reduceAdd, Int.reduceSub, Int.reduceNeg, reduceCtorEq]; exact rfl) ?_
    rw [← hn1]
    exact ih (k + 1) (by omega) (by omega)
  · have hlt' : ((k : Int) < (t.length : Int)) = False := eq_false (by omega)
    have e : t.take k = t := List.take_of_length_le (by omega)
    rw [e]
    repeat' (first | (with_reducible refine hY _ ?_; clear hY Y) | ((with_reducible first | refine av rfl (aD fun K' hK' => ab ?_) | refine hK' _ (ac fun Y hY => ab ?_) | refine ac fun Y hY => ab ?_ | refine ae tk0 b0 (ac fun Y hY => ab ?_) | refine ab ?_ | refine ap ?_); (try clear hK' K'); (try dsimp only [aop]); try simp only [go_sem, ↓reduceIte, Nat.reduceEqDiff, Nat.reduceLT, Nat.reduceLeDiff, Nat.reduceAdd, Nat.reduceSub, Nat.reduceMul, Nat.reduceBEq, Nat.reduceBNe, Nat.reducePow, Int.reduceToNat, Int.reduceLE, Int.reduceLT, Int.reduceMul, Int.reduceEq, Int.reducePow, Int.reduceAdd, Int.reduceSub, Int.reduceNeg, reduceCtorEq, b0, Tryz.results70, hlt']) | (with_reducible first | refine ai ?_ | refine al ?_ | refine am ?_ | refine aL fun K hK => ?_ | refine ar ?_ | refine bN ?_ | refine bo ?_ | refine az ?_ | refine bq ?_) | (with_reducible refine hK _ ?_; clear hK K) | ((with_reducible refine ah ?_ ?_); (· decide)))
    all_goals first | rfl | exact ⟨rfl, rfl⟩
def RxK (f : FuncId) (B : Nat) (g : RS → Ex × RS) : Prop := ∀ r : RS, r.mu < B → AFn Tryz.prog f [.loc 20000 0] [rA r] (.agg (exA (g r).1)) [rA (g r).2]
theorem dt (r : RS) : IntKind.i64.wrap ((r.i : Int) + 1) = ((r.i + 1 : Nat) : Int) := by
  have := r.hi; have := r.short
  rw [bO (by omega) (by omega)]; rfl
def aV : Nat → List Nat
  | 0 => [0, 1]
  | 1 => [0, 1]
  | 2 => []
  | 3 => [0]
  | 4 => [0, 5]
  | 5 => [0, 5]
  | 6 => [0, 5]
  | 7 => [5]
  | _ => []
set_option maxRecDepth 100000 in
set_option maxHeartbeats 4000000 in
theorem oR (r : RS) (least : Nat) : AFn Tryz.prog 16 [.loc 20000 0, inA (least : Int)] [rA r] (.sl ((r.names least).1.map bs) (r.names least).1.length .none) [rA (r.names least).2] := by
  have h1 := my r
  have h2 := fq r 1 (by decide)
  unfold RS.names
  by_cases h : least = 0 ∧ r.kind ≠ 1
  · rw [if_pos h]
    obtain ⟨rfl, h⟩ := h
    have h' : ((r.kind : Int) = 1) = False := eq_false (by omega)
    generalize r.kind = k at *
    refine dy (r := .sl [] 0 .full) ?_ 1 rfl
    refine aK [] Tryz.func16 rfl Tryz.ntmps16 (Nat.le_of_ble_eq_true rfl) (Nat.le_of_ble_eq_true rfl) fun w0 G0 B0 Pr hB0 => ?_
    simp only [aQ, aI, List.cons_append, List.nil_append]
    repeat' (first | (with_reducible refine hY _ ?_; clear hY Y) | ((with_reducible first | refine av rfl (aD fun K' hK' => ab ?_) | refine hK' _ (ac fun Y hY => ab ?_) | refine bR rfl (ac fun Y hY => ab ?_) | refine ac fun Y hY => ab ?_ | refine aD fun K' hK' => ab ?_ | refine ae tk0 aV (ac fun Y hY => ab ?_) | refine ab ?_ | refine ap ?_); (try clear hK' K'); (try dsimp only [aop]); try simp only [go_sem, ↓reduceIte, Nat.reduceEqDiff, Nat.reduceLT, Nat.reduceLeDiff, Nat.reduceAdd, Nat.reduceSub, Nat.reduceMul, Nat.reduceBEq, Nat.reduceBNe, Nat.reducePow, Int.reduceToNat, Int.reduceLE, Int.reduceLT, Int.reduceMul, Int.reduceEq, Int.reducePow, Int.reduceAdd, Int.reduceSub, Int.reduceNeg, reduceCtorEq, aV, Tryz.results16, h']) | (with_reducible first | refine ai ?_ | refine aS ?_ | refine al ?_ | refine am ?_ | refine aL fun K hK => ?_ | refine ax ?_ | refine bg ?_ | refine az ?_) | (with_reducible refine hK _ ?_; clear hK K) | ((with_reducible first | refine aR ?_ ?_ | refine ah ?_ ?_); (· decide)) | ((with_reducible refine bK (fun hc => ?_) (fun hc => ?_)) <;> (try simp only [decide_eq_true_eq, decide_eq_false_iff_not, Bool.not_true, Bool.not_false, Bool.not_eq_true', Bool.not_eq_false'] at hc) <;> (try (exfalso; omega))) | (with_reducible refine aa (h1) ?_))
  rw [if_neg h]
  obtain ⟨R, hR⟩ : ∃ R, R = iD [44] (fun r : RS => r.text 1) FU [(r.text 1).1] (r.text 1).2 := ⟨_, rfl⟩
  rw [← hR]
  have hm0 := fS (r.text 1).2
  have hn : least = 0 → r.kind = 1 := fun e => by
    by_cases hk : r.kind = 1
    · exact hk
    · exact absurd ⟨e, hk⟩ h
  generalize r.kind = k at *
  generalize r.text 1 = q at *
  refine aK [] Tryz.func16 rfl Tryz.ntmps16 (Nat.le_of_ble_eq_true rfl) (Nat.le_of_ble_eq_true rfl) fun w0 G0 B0 Pr hB0 => ?_
  simp only [aQ, aI, List.cons_append, List.nil_append]
  have key : ((least : Int) = 0) = False ∨ (((least : Int) = 0) = True ∧ ((k : Int) = 1) = True) := by
    by_cases hl : least = 0
    · right; exact ⟨eq_true (by omega), eq_true (by have := hn hl; omega)⟩
    · left; exact eq_false (by omega)
  clear h hn
  rcases key with hl0 | ⟨hl0, hk1⟩
  · repeat' (first | (with_reducible refine hY _ ?_; clear hY Y) | ((with_reducible first | refine av rfl (aD fun K' hK' => ab ?_) | refine hK' _ (ac fun Y hY => ab ?_) | refine bR rfl (ac fun Y hY => ab ?_) | refine ac fun Y hY => ab ?_ | refine ae tk0 aV (ac fun Y hY => ab ?_) | refine ab ?_); (try clear hK' K'); (try dsimp only [aop]); try simp only [go_sem, ↓reduceIte, Nat.reduceEqDiff, Nat.reduceLT, Nat.reduceLeDiff, Nat.reduceAdd, Nat.reduceSub, Nat.reduceMul, Nat.reduceBEq, Nat.reduceBNe, Nat.reducePow, Int.reduceToNat, Int.reduceLE, Int.reduceLT, Int.reduceMul, Int.reduceEq, Int.reducePow, Int.reduceAdd, Int.reduceSub, Int.reduceNeg, reduceCtorEq, aV, Tryz.results16, hl0]) | (with_reducible first | refine ai ?_ | refine bj rfl ?_ | refine dk ?_ ?_ | refine al ?_ | refine am ?_ | refine aL fun K hK => ?_ | refine ar ?_ | refine aq ?_ | refine aC ?_ | refine bx ?_) | (with_reducible refine hK _ ?_; clear hK K) | ((with_reducible first | refine aR ?_ ?_ | refine ah ?_ ?_); (· decide)) | (with_reducible refine aa (h2) ?_))
    refine fw (gk (b := 10030) (t := 5) 9 (by decide) (by decide) rfl rfl) ?_
    refine cw (α := Nat × List Wd × RS) (fun p => [(0, .loc 20000 0), (5, .sl (p.2.1.map bs) p.2.1.length (.tok 10030)), (10030, .bt p.2.1.length 9), (20000, rA p.2.2)])
      (fun p => iD [44] (fun r : RS => r.text 1) p.1 p.2.1 p.2.2 = R ∧ p.2.2.mu < p.1 ∧ p.2.1.length + p.1 ≤ 80000) (fun p => p.1) (FU, [q.1], q.2) [0, 5] ?_ ⟨hR.symm, hm0, (by simp [FU])⟩ ?_
    · simp only [go_sem, ↓reduceIte, Nat.reduceEqDiff, Nat.reduceLT, Nat.reduceLeDiff, Nat.reduceAdd, Nat.reduceSub, Nat.reduceMul, Nat.reduceBEq, Nat.reduceBNe, Nat.reducePow, Int.reduceToNat, Int.reduceLE, Int.reduceLT, Int.reduceMul, Int.reduceEq, Int.reducePow, Int.reduceAdd, Int.reduceSub, Int.reduceNeg, reduceCtorEq] <;> rfl
    rintro ⟨f, out, r1⟩ ⟨hgo, hmu, hlen⟩ ih
    simp only at ih hgo hmu hlen ⊢
    clear hR
    obtain ⟨f, rfl⟩ : ∃ f', f = f' + 1 := ⟨f - 1, by omega⟩
    rw [iD] at hgo
    have h3 := eB r1
    by_cases hc : r1.next = [44]
    · have hm2 := cO (by simp) hc
      obtain ⟨_, t, ht, _⟩ := cA (by simp) hc
      have h4 := fq r1.bump 1 (by decide)
      have hm3 := eu r1.bump 1
      have hbw := dt r1
      rw [if_pos hc] at hgo
      rw [hc] at h3
      rw [cU ht] at h4
      generalize r1.bump.text 1 = q2 at *
      repeat' (first | (with_reducible refine hY _ ?_; clear hY Y) | ((with_reducible first | refine av rfl (aD fun K' hK' => ab ?_) | refine hK' _ (ac fun Y hY => ab ?_) | refine ac fun Y hY => ab ?_ | refine ae tk0 aV (ac fun Y hY => ab ?_) | refine ab ?_); (try clear hK' K'); (try dsimp only [aop]); try simp only [go_sem, ↓reduceIte, Nat.reduceEqDiff, Nat.reduceLT, Nat.reduceLeDiff, Nat.reduceAdd, Nat.reduceSub, Nat.reduceMul, Nat.reduceBEq, Nat.reduceBNe, Nat.reducePow, Int.reduceToNat, Int.reduceLE, Int.reduceLT, Int.reduceMul, Int.reduceEq, Int.reducePow, Int.reduceAdd, Int.reduceSub, Int.reduceNeg, reduceCtorEq, aV, Tryz.results16, List.length_map, hbw, beq_self_eq_true]) | (with_reducible first | refine ai ?_ | refine al ?_ | refine am ?_ | refine aL fun K hK => ?_ | refine ax ?_ | refine aO ?_ | refine aq ?_ | refine aC ?_) | (with_reducible refine hK _ ?_; clear hK K) | ((with_reducible refine ah ?_ ?_); (· decide)) | (with_reducible refine bQ ?_ ?_; (· (try and_intros) <;> first | omega | assumption | (simp only [List.length_append, List.length_map, List.length_cons, List.length_nil] <;> omega))) | (with_reducible refine aa (h3) ?_) | (with_reducible refine aa (h4) ?_) | (with_reducible refine be (aU _) ?_))
      refine bA [0, 5] (by simp only [go_sem, ↓reduceIte, Nat.reduceEqDiff, Nat.reduceLT, Nat.reduceLeDiff, Nat.reduceAdd, Nat.reduceSub, Nat.reduceMul, Nat.reduceBEq, Nat.reduceBNe, Nat.reducePow, Int.reduceToNat, Int.reduceLE, Int.reduceLT, Int.reduceMul, Int.reduceEq, Int.reducePow, Int.reduceAdd, Int.reduceSub, Int.reduceNeg, reduceCtorEq]; exact rfl) ?_
      refine dw (ih (f, out ++ [q2.1], q2.2) ⟨hgo, by simp only; omega, (by simp only [List.length_append, List.length_cons, List.length_nil]; omega)⟩ (by simp only; omega)) ?_
      simp
    · rw [if_neg hc] at hgo
      subst hgo
      have hne : (r1.next == [44]) = false := by simpa using hc
      generalize r1.next = x at *
      repeat' (first | (with_reducible refine hY _ ?_; clear hY Y) | ((with_reducible first | refine av rfl (aD fun K' hK' => ab ?_) | refine hK' _ (ac fun Y hY => ab ?_) | refine ac fun Y hY => ab ?_ | refine ae tk0 aV (ac fun Y hY => ab ?_) | refine ab ?_ | refine ap ?_); (try clear hK' K'); (try dsimp only [aop]); try simp only [go_sem, ↓reduceIte, Nat.reduceEqDiff, Nat.reduceLT, Nat.reduceLeDiff, Nat.reduceAdd, Nat.reduceSub, Nat.reduceMul, Nat.reduceBEq, Nat.reduceBNe, Nat.reducePow, Int.reduceToNat, Int.reduceLE, Int.reduceLT, Int.reduceMul, Int.reduceEq, Int.reducePow, Int.reduceAdd, Int.reduceSub, Int.reduceNeg, reduceCtorEq, aV, Tryz.results16, hne]) | (with_reducible first | refine ai ?_ | refine al ?_ | refine am ?_ | refine aL fun K hK => ?_ | refine ar ?_ | refine bN ?_ | refine bo ?_ | refine az ?_ | refine bq ?_) | (with_reducible refine hK _ ?_; clear hK K) | ((with_reducible refine ah ?_ ?_); (· decide)) | (with_reducible refine aa (h3) ?_) | (with_reducible refine be (aU _) ?_))
      all_goals first | rfl | exact ⟨rfl, rfl⟩
  · repeat' (first | (with_reducible refine hY _ ?_; clear hY Y) | ((with_reducible first | refine av rfl (aD fun K' hK' => ab ?_) | refine hK' _ (ac fun Y hY => ab ?_) | refine bR rfl (ac fun Y hY => ab ?_) | refine ac fun Y hY => ab ?_ | refine aD fun K' hK' => ab ?_ | refine ae tk0 aV (ac fun Y hY => ab ?_) | refine ab ?_); (try clear hK' K'); (try dsimp only [aop]); try simp only [go_sem, ↓reduceIte, Nat.reduceEqDiff, Nat.reduceLT, Nat.reduceLeDiff, Nat.reduceAdd, Nat.reduceSub, Nat.reduceMul, Nat.reduceBEq, Nat.reduceBNe, Nat.reducePow, Int.reduceToNat, Int.reduceLE, Int.reduceLT, Int.reduceMul, Int.reduceEq, Int.reducePow, Int.reduceAdd, Int.reduceSub, Int.reduceNeg, reduceCtorEq, aV, Tryz.results16, hl0, hk1]) | (with_reducible first | refine ai ?_ | refine aS ?_ | refine al ?_ | refine am ?_ | refine aL fun K hK => ?_ | refine ar ?_ | refine aq ?_ | refine aC ?_ | refine bx ?_) | (with_reducible refine hK _ ?_; clear hK K) | ((with_reducible first | refine aR ?_ ?_ | refine ah ?_ ?_); (· decide)) | (with_reducible refine aa (h1) ?_) | (with_reducible refine aa (h2) ?_))
    refine fw (gk (b := 10030) (t := 5) 9 (by decide) (by decide) rfl rfl) ?_
    refine cw (α := Nat × List Wd × RS) (fun p => [(0, .loc 20000 0), (5, .sl (p.2.1.map bs) p.2.1.length (.tok 10030)), (10030, .bt p.2.1.length 9), (20000, rA p.2.2)])
      (fun p => iD [44] (fun r : RS => r.text 1) p.1 p.2.1 p.2.2 = R ∧ p.2.2.mu < p.1 ∧ p.2.1.length + p.1 ≤ 80000) (fun p => p.1) (FU, [q.1], q.2) [0, 5] ?_ ⟨hR.symm, hm0, (by simp [FU])⟩ ?_
    · simp only [go_sem, ↓reduceIte, Nat.reduceEqDiff, Nat.reduceLT, Nat.reduceLeDiff, Nat.reduceAdd, Nat.reduceSub, Nat.reduceMul, Nat.reduceBEq, Nat.reduceBNe, Nat.reducePow, Int.reduceToNat, Int.reduceLE, Int.reduceLT, Int.reduceMul, Int.reduceEq, Int.reducePow, Int.reduceAdd, Int.reduceSub, Int.reduceNeg, reduceCtorEq] <;> rfl
    rintro ⟨f, out, r1⟩ ⟨hgo, hmu, hlen⟩ ih
    simp only at ih hgo hmu hlen ⊢
    clear hR
    obtain ⟨f, rfl⟩ : ∃ f', f = f' + 1 := ⟨f - 1, by omega⟩
    rw [iD] at hgo
    have h3 := eB r1
    by_cases hc : r1.next = [44]
    · have hm2 := cO (by simp) hc
      obtain ⟨_, t, ht, _⟩ := cA (by simp) hc
      have h4 := fq r1.bump 1 (by decide)
      have hm3 := eu r1.bump 1
      have hbw := dt r1
      rw [if_pos hc] at hgo
      rw [hc] at h3
      rw [cU ht] at h4
      generalize r1.bump.text 1 = q2 at *
      repeat' (first | (with_reducible refine hY _ ?_; clear hY Y) | ((with_reducible first | refine av rfl (aD fun K' hK' => ab ?_) | refine hK' _ (ac fun Y hY => ab ?_) | refine ac fun Y hY => ab ?_ | refine ae tk0 aV (ac fun Y hY => ab ?_) | refine ab ?_); (try clear hK' K'); (try dsimp only [aop]); try simp only [go_sem, ↓reduceIte, Nat.reduceEqDiff, Nat.reduceLT, Nat.reduceLeDiff, Nat.reduceAdd, Nat.reduceSub, Nat.reduceMul, Nat.reduceBEq, Nat.reduceBNe, Nat.reducePow, Int.reduceToNat, Int.reduceLE, Int.reduceLT, Int.reduceMul, Int.reduceEq, Int.reducePow, Int.reduceAdd, Int.reduceSub, Int.reduceNeg, reduceCtorEq, aV, Tryz.results16, List.length_map, hbw, beq_self_eq_true]) | (with_reducible first | refine ai ?_ | refine al ?_ | refine am ?_ | refine aL fun K hK => ?_ | refine ax ?_ | refine aO ?_ | refine aq ?_ | refine aC ?_) | (with_reducible refine hK _ ?_; clear hK K) | ((with_reducible refine ah ?_ ?_); (· decide)) | (with_reducible refine bQ ?_ ?_; (· (try and_intros) <;> first | omega | assumption | (simp only [List.length_append, List.length_map, List.length_cons, List.length_nil] <;> omega))) | (with_reducible refine aa (h3) ?_) | (with_reducible refine aa (h4) ?_) | (with_reducible refine be (aU _) ?_))
      refine bA [0, 5] (by simp only [go_sem, ↓reduceIte, Nat.reduceEqDiff, Nat.reduceLT, Nat.reduceLeDiff, Nat.reduceAdd, Nat.reduceSub, Nat.reduceMul, Nat.reduceBEq, Nat.reduceBNe, Nat.reducePow, Int.reduceToNat, Int.reduceLE, Int.reduceLT, Int.reduceMul, Int.reduceEq, Int.reducePow, Int.reduceAdd, Int.reduceSub, Int.reduceNeg, reduceCtorEq]; exact rfl) ?_
      refine dw (ih (f, out ++ [q2.1], q2.2) ⟨hgo, by simp only; omega, (by simp only [List.length_append, List.length_cons, List.length_nil]; omega)⟩ (by simp only; omega)) ?_
      simp
    · rw [if_neg hc] at hgo
      subst hgo
      have hne : (r1.next == [44]) = false := by simpa using hc
      generalize r1.next = x at *
      repeat' (first | (with_reducible refine hY _ ?_; clear hY Y) | ((with_reducible first | refine av rfl (aD fun K' hK' => ab ?_) | refine hK' _ (ac fun Y hY => ab ?_) | refine ac fun Y hY => ab ?_ | refine ae tk0 aV (ac fun Y hY => ab ?_) | refine ab ?_ | refine ap ?_); (try clear hK' K'); (try dsimp only [aop]); try simp only [go_sem, ↓reduceIte, Nat.reduceEqDiff, Nat.reduceLT, Nat.reduceLeDiff, Nat.reduceAdd, Nat.reduceSub, Nat.reduceMul, Nat.reduceBEq, Nat.reduceBNe, Nat.reducePow, Int.reduceToNat, Int.reduceLE, Int.reduceLT, Int.reduceMul, Int.reduceEq, Int.reducePow, Int.reduceAdd, Int.reduceSub, Int.reduceNeg, reduceCtorEq, aV, Tryz.results16, hne]) | (with_reducible first | refine ai ?_ | refine al ?_ | refine am ?_ | refine aL fun K hK => ?_ | refine ar ?_ | refine bN ?_ | refine bo ?_ | refine az ?_ | refine bq ?_) | (with_reducible refine hK _ ?_; clear hK K) | ((with_reducible refine ah ?_ ?_); (· decide)) | (with_reducible refine aa (h3) ?_) | (with_reducible refine be (aU _) ?_))
      all_goals first | rfl | exact ⟨rfl, rfl⟩
def bJ : Nat → List Nat
  | 0 => [0]
  | 1 => [0, 2]
  | 2 => [0, 2, 3]
  | 3 => [0, 2, 3, 4]
  | 4 => [2, 3]
  | 5 => [0, 2, 3, 4]
  | 6 => [0, 2, 3, 4]
  | 7 => [0, 2, 3, 4, 5]
  | 8 => [0, 2, 3]
  | 9 => [0, 2, 3, 5]
  | 10 => [0, 2, 3, 5, 6]
  | _ => []
set_option maxRecDepth 100000 in
set_option maxHeartbeats 4000000 in
theorem rY {B : Nat} {g : RS → Ex × RS} (hg : RxK 91 B g) (hmu : ∀ r, (g r).2.mu ≤ r.mu) : RxK 69 B (gw g) := by
  intro r hs
  obtain ⟨R, hR⟩ : ∃ R, R = gw g r := ⟨_, rfl⟩
  rw [← hR]
  unfold gw at hR
  have h1 := hg r hs
  have hm0 := fS (g r).2
  have hm1 := hmu r
  generalize g r = q at *
  obtain ⟨⟨k0, n0, x0, ks0⟩, r0⟩ := q
  simp only [exA] at h1
  refine aK [] Tryz.func69 rfl Tryz.ntmps69 (Nat.le_of_ble_eq_true rfl) (Nat.le_of_ble_eq_true rfl) fun w0 G0 B0 Pr hB0 => ?_
  simp only [aQ, aI, List.cons_append, List.nil_append]
  repeat' (first | (with_reducible refine hY _ ?_; clear hY Y) | ((with_reducible first | refine av rfl (aD fun K' hK' => ab ?_) | refine hK' _ (ac fun Y hY => ab ?_) | refine ae tk0 bJ (ac fun Y hY => ab ?_) | refine ab ?_); (try clear hK' K'); (try dsimp only [aop]); try simp only [go_sem, ↓reduceIte, Nat.reduceEqDiff, Nat.reduceLT, Nat.reduceLeDiff, Nat.reduceAdd, Nat.reduceSub, Nat.reduceMul, Nat.reduceBEq, Nat.reduceBNe, Nat.reducePow, Int.reduceToNat, Int.reduceLE, Int.reduceLT, Int.reduceMul, Int.reduceEq, Int.reducePow, Int.reduceAdd, Int.reduceSub, Int.reduceNeg, reduceCtorEq, bJ, Tryz.results69]) | (with_reducible first | refine ai ?_ | refine al ?_ | refine am ?_ | refine aL fun K hK => ?_ | refine aq ?_ | refine bx ?_) | (with_reducible refine hK _ ?_; clear hK K) | (with_reducible refine aa (h1) ?_))
  refine cw (α := Nat × Ex × RS) (fun p => [(0, .loc 20000 0), (2, .loc 10002 0), (3, .loc 10003 0), (10002, .bc (exA exZ) 42), (10003, .bc (exA p.2.1) 42), (20000, rA p.2.2)])
    (fun p => fz g p.1 p.2.1 p.2.2 = R ∧ p.2.2.mu < p.1 ∧ p.2.2.mu < B) (fun p => p.1) (FU, .mk k0 n0 x0 ks0, r0) [0, 2, 3] ?_ ⟨hR.symm, hm0, Nat.lt_of_le_of_lt hm1 hs⟩ ?_
  · simp only [go_sem, ↓reduceIte, Nat.reduceEqDiff, Nat.reduceLT, Nat.reduceLeDiff, Nat.reduceAdd, Nat.reduceSub, Nat.reduceMul, Nat.reduceBEq, Nat.reduceBNe, Nat.reducePow, Int.reduceToNat, Int.reduceLE, Int.reduceLT, Int.reduceMul, Int.reduceEq, Int.reducePow, Int.reduceAdd, Int.reduceSub, Int.reduceNeg, reduceCtorEq] <;> rfl
  rintro ⟨f, ⟨k1, n1, x1, ks1⟩, r1⟩ ⟨hgo, hmf, hmB⟩ ih
  simp only [exA, exZ, cW] at ih hgo hmf hmB ⊢
  obtain ⟨f, rfl⟩ : ∃ f', f = f' + 1 := ⟨f - 1, by omega⟩
  rw [fz] at hgo
  have h2 := eB r1
  have hb1 : (([43] : Wd) == [45]) = false := rfl
  have hb2 : (([45] : Wd) == [43]) = false := rfl
  by_cases hc : r1.next = [43]
  · obtain ⟨_, t, ht, _⟩ := cA (by simp) hc
    have hm2 := cO (by simp) hc
    have hm3 := hmu r1.bump
    have h4 := hg r1.bump (by omega)
    have hbw := dt r1
    rw [cU ht] at h4
    rw [hc] at h2 hgo
    generalize g r1.bump = q2 at *
    obtain ⟨⟨k2, n2, x2, ks2⟩, r3⟩ := q2
    simp only [exA] at h4 hgo hm3
    rw [if_pos (by simp), if_neg (by simp)] at hgo
    repeat' (first | (with_reducible refine hY _ ?_; clear hY Y) | ((with_reducible first | refine av rfl (aD fun K' hK' => ab ?_) | refine hK' _ (ac fun Y hY => ab ?_) | refine bR rfl (ac fun Y hY => ab ?_) | refine ac fun Y hY => ab ?_ | refine ae tk0 bJ (ac fun Y hY => ab ?_) | refine ab ?_); (try clear hK' K'); (try dsimp only [aop]); try simp only [go_sem, ↓reduceIte, Nat.reduceEqDiff, Nat.reduceLT, Nat.reduceLeDiff, Nat.reduceAdd, Nat.reduceSub, Nat.reduceMul, Nat.reduceBEq, Nat.reduceBNe, Nat.reducePow, Int.reduceToNat, Int.reduceLE, Int.reduceLT, Int.reduceMul, Int.reduceEq, Int.reducePow, Int.reduceAdd, Int.reduceSub, Int.reduceNeg, reduceCtorEq, bJ, Tryz.results69, hbw, hb1, hb2, beq_self_eq_true]) | (with_reducible first | refine ai ?_ | refine bj rfl ?_ | refine dk ?_ ?_ | refine al ?_ | refine am ?_ | refine aL fun K hK => ?_ | refine ar ?_ | refine aO ?_ | refine aq ?_ | refine aC ?_) | (with_reducible refine hK _ ?_; clear hK K) | ((with_reducible first | refine aR ?_ ?_ | refine ah ?_ ?_); (· decide)) | (with_reducible refine aa (h2) ?_) | (with_reducible refine aa (h4) ?_) | (with_reducible refine be (aU _) ?_))
    refine bA [0, 2, 3] (by simp only [go_sem, ↓reduceIte, Nat.reduceEqDiff, Nat.reduceLT, Nat.reduceLeDiff, Nat.reduceAdd, Nat.reduceSub, Nat.reduceMul, Nat.reduceBEq, Nat.reduceBNe, Nat.reducePow, Int.reduceToNat, Int.reduceLE, Int.reduceLT, Int.reduceMul, Int.reduceEq, Int.reducePow, Int.reduceAdd, Int.reduceSub, Int.reduceNeg, reduceCtorEq]; exact rfl) ?_
    refine dw (ih (f, _, r3) ⟨hgo, by simp only; omega, by simp only; omega⟩ (by simp only; omega)) ?_
    rfl
  by_cases hc' : r1.next = [45]
  · clear hc
    have hc := hc'
    obtain ⟨_, t, ht, _⟩ := cA (by simp) hc
    have hm2 := cO (by simp) hc
    have hm3 := hmu r1.bump
    have h4 := hg r1.bump (by omega)
    have hbw := dt r1
    rw [cU ht] at h4
    rw [hc] at h2 hgo
    generalize g r1.bump = q2 at *
    obtain ⟨⟨k2, n2, x2, ks2⟩, r3⟩ := q2
    simp only [exA] at h4 hgo hm3
    rw [if_pos (by simp), if_pos (by simp)] at hgo
    repeat' (first | (with_reducible refine hY _ ?_; clear hY Y) | ((with_reducible first | refine av rfl (aD fun K' hK' => ab ?_) | refine hK' _ (ac fun Y hY => ab ?_) | refine bR rfl (ac fun Y hY => ab ?_) | refine ac fun Y hY => ab ?_ | refine aD fun K' hK' => ab ?_ | refine ae tk0 bJ (ac fun Y hY => ab ?_) | refine ab ?_); (try clear hK' K'); (try dsimp only [aop]); try simp only [go_sem, ↓reduceIte, Nat.reduceEqDiff, Nat.reduceLT, Nat.reduceLeDiff, Nat.reduceAdd, Nat.reduceSub, Nat.reduceMul, Nat.reduceBEq, Nat.reduceBNe, Nat.reducePow, Int.reduceToNat, Int.reduceLE, Int.reduceLT, Int.reduceMul, Int.reduceEq, Int.reducePow, Int.reduceAdd, Int.reduceSub, Int.reduceNeg, reduceCtorEq, bJ, Tryz.results69, hbw, hb1, hb2, beq_self_eq_true]) | (with_reducible first | refine ai ?_ | refine aS ?_ | refine al ?_ | refine am ?_ | refine aL fun K hK => ?_ | refine ax ?_ | refine ar ?_ | refine aO ?_ | refine aq ?_ | refine aC ?_) | (with_reducible refine hK _ ?_; clear hK K) | ((with_reducible first | refine aR ?_ ?_ | refine ah ?_ ?_); (· decide)) | (with_reducible refine aa (h2) ?_) | (with_reducible refine aa (h4) ?_) | (with_reducible refine be (aU _) ?_))
    refine bA [0, 2, 3] (by simp only [go_sem, ↓reduceIte, Nat.reduceEqDiff, Nat.reduceLT, Nat.reduceLeDiff, Nat.reduceAdd, Nat.reduceSub, Nat.reduceMul, Nat.reduceBEq, Nat.reduceBNe, Nat.reducePow, Int.reduceToNat, Int.reduceLE, Int.reduceLT, Int.reduceMul, Int.reduceEq, Int.reducePow, Int.reduceAdd, Int.reduceSub, Int.reduceNeg, reduceCtorEq]; exact rfl) ?_
    refine dw (ih (f, _, r3) ⟨hgo, by simp only; omega, by simp only; omega⟩ (by simp only; omega)) ?_
    rfl
  · rw [if_neg (by rintro (h | h) <;> contradiction)] at hgo
    have hne1 : (r1.next == [43]) = false := by simpa using hc
    have hne2 : (r1.next == [45]) = false := by simpa using hc'
    rw [← hgo]
    generalize r1.next = x at *
    repeat' (first | (with_reducible refine hY _ ?_; clear hY Y) | ((with_reducible first | refine av rfl (aD fun K' hK' => ab ?_) | refine hK' _ (ac fun Y hY => ab ?_) | refine bR rfl (ac fun Y hY => ab ?_) | refine ac fun Y hY => ab ?_ | refine aD fun K' hK' => ab ?_ | refine ae tk0 bJ (ac fun Y hY => ab ?_) | refine ab ?_ | refine ap ?_); (try clear hK' K'); (try dsimp only [aop]); try simp only [go_sem, ↓reduceIte, Nat.reduceEqDiff, Nat.reduceLT, Nat.reduceLeDiff, Nat.reduceAdd, Nat.reduceSub, Nat.reduceMul, Nat.reduceBEq, Nat.reduceBNe, Nat.reducePow, Int.reduceToNat, Int.reduceLE, Int.reduceLT, Int.reduceMul, Int.reduceEq, Int.reducePow, Int.reduceAdd, Int.reduceSub, Int.reduceNeg, reduceCtorEq, bJ, Tryz.results69, hne1, hne2]) | (with_reducible first | refine ai ?_ | refine aS ?_ | refine al ?_ | refine am ?_ | refine aL fun K hK => ?_ | refine ax ?_ | refine bg ?_ | refine bL ?_ | refine aq ?_ | refine az ?_) | (with_reducible refine hK _ ?_; clear hK K) | ((with_reducible first | refine aR ?_ ?_ | refine ah ?_ ?_); (· decide)) | (with_reducible refine aa (h2) ?_) | (with_reducible refine be (aU _) ?_))
    all_goals first | rfl | exact ⟨rfl, rfl⟩
end Go.Proofs.YtpkcgdikbjaoaaaGreatDoor
