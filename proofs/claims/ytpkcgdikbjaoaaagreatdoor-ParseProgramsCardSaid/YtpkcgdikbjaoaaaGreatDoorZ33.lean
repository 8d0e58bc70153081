/- The document's Scan, in K. -/
import Derived.Test.YtpkcgdikbjaoaaaGreatDoorZ32
import Derived.Test.YtpkcgdikbjaoaaaGreatDoorZ7
namespace Go.Proofs.YtpkcgdikbjaoaaaGreatDoor
set_option linter.unusedSimpArgs false
set_option linter.unusedVariables false
open Go.RowKit
theorem uw {E : Env} {Q : Exit → ba → Prop} {σ σ' : ba} {c : Code} {L : List Nat} (hσ : gW L σ = σ') (h : aw E c Q σ') : aw E c Q σ := q7 (ii L σ) (hσ ▸ h)
theorem vo {p : UInt8 → Bool} : ∀ {r : List UInt8} {k : Nat}, k < (r.takeWhile p).length → k < r.length ∧ p (r.getD k 0) = true
  | [], k, h => by simp at h
  | c :: r, k, h => by
    rw [List.takeWhile_cons] at h
    split at h
    · rename_i hc
      cases k with
      | zero => exact ⟨by simp, by simpa using hc⟩
      | succ k =>
        have := vo (r := r) (k := k) (by simpa using h)
        exact ⟨by simpa using this.1, by simpa using this.2⟩
    · simp at h
theorem ru {p : UInt8 → Bool} : ∀ {r : List UInt8}, (r.takeWhile p).length < r.length → p (r.getD (r.takeWhile p).length 0) = false
  | [], h => by simp at h
  | c :: r, h => by
    rw [List.takeWhile_cons] at h ⊢
    split
    · rename_i hc
      rw [if_pos hc] at h
      have := ru (r := r) (by simpa using h)
      simpa using this
    · rename_i hc
      simpa using hc
theorem jw {l : List UInt8} {a k : Nat} : (l.drop a).getD k 0 = l.getD (a + k) 0 := by
  simp [List.getD_eq_getElem?_getD, List.getElem?_drop]
theorem pL {acc : List Tok} {a : Nat} {c : UInt8} {r : List UInt8} (h : blanksL.contains c = true) : fD acc a (c :: r) = fD acc (a + 1) r := by
  have h1 : bP blanksL (c :: r) = bP blanksL r + 1 := by
    unfold bP; rw [List.takeWhile_cons, if_pos h]; rfl
  have hst : dC a (c :: r) = .skip (bP blanksL r + 1) := by
    unfold dC; rw [if_pos (by omega), h1]
  rw [fd (by simp) hst, List.drop_succ_cons]
  by_cases h2 : 0 < bP blanksL r
  · have hst2 : dC (a + 1) r = .skip (bP blanksL r) := if_pos h2
    rw [fd (a := a + 1) (by have := fu blanksL r; omega) hst2, Nat.add_assoc, Nat.add_comm 1]
  · have : bP blanksL r = 0 := by omega
    rw [this, List.drop_zero]
def yo (R : Res) : AV := .tup [.sl (R.1.flatMap ee) R.1.length (if R.2.1 = 0 then .none else .full), .c (.int .i64 (R.2.1 : Int)), .c (.int .i64 R.2.2)]
def ag : Nat → List Nat
  | 0 => [0]
  | 1 => [0]
  | 2 => []
  | 3 => [0]
  | 4 => [0, 5]
  | 5 => [0, 5, 6]
  | 6 => [0, 5, 6]
  | 7 => [0, 5, 6, 7]
  | 8 => [0, 5, 6, 7, 8]
  | 9 => [0, 5, 6, 7, 8, 9]
  | 10 => [0, 5, 6, 7, 8, 9]
  | 11 => [0, 5, 6, 7, 8, 9]
  | 12 => [0, 5, 6, 10]
  | 13 => [0, 5, 6, 10]
  | 14 => [0, 5, 6, 7, 8, 9, 10]
  | 15 => [0, 5, 6]
  | 16 => [0, 5, 6, 7, 8, 9, 10]
  | 17 => [0, 5, 6]
  | 18 => [0, 5, 6]
  | 19 => [0, 5, 6, 7, 8, 9, 10]
  | 20 => [6]
  | 21 => [0, 5, 6, 7, 8, 9, 10]
  | 22 => [0, 5, 6, 8]
  | 23 => [0, 5, 6, 8, 11]
  | 24 => [0, 5, 6, 8, 11, 12]
  | 25 => [0, 5, 6, 8]
  | 26 => [0, 5, 6, 8, 11]
  | 27 => [0, 5, 6, 8]
  | 28 => [0, 5, 6, 7, 9, 10]
  | 29 => [0, 5, 6, 7, 9]
  | 30 => [6]
  | 31 => [0, 5, 6, 9]
  | 32 => [0, 5, 6, 9]
  | 33 => [0, 5, 6, 10]
  | 34 => [6]
  | 35 => [5]
  | _ => []
set_option maxRecDepth 100000 in
set_option maxHeartbeats 16000000 in
theorem xZ (l : List UInt8) : AFn Tryz.prog 13 [bs l] [] (yo (cX l)) [] := by
  unfold cX
  by_cases hl : 65536 < l.length
  · rw [if_pos hl]
    have hl' : ((65536 : Int) < (l.length : Int)) = True := eq_true (by omega)
    refine aK [] Tryz.func13 rfl Tryz.ntmps13 (Nat.le_of_ble_eq_true rfl) (Nat.le_of_ble_eq_true rfl) fun w0 G0 B0 Pr hB0 => ?_
    simp only [aQ, aI, List.cons_append, List.nil_append]
    repeat' (first | (with_reducible refine hY _ ?_; clear hY Y) | ((with_reducible first | refine av rfl (aD fun K' hK' => ab ?_) | refine hK' _ (ac fun Y hY => ab ?_) | refine bR rfl (ac fun Y hY => ab ?_) | refine ac fun Y hY => ab ?_ | refine aD fun K' hK' => ab ?_ | refine ae tk0 ag (ac fun Y hY => ab ?_) | refine ab ?_ | refine ap ?_ | refine bY rfl (bI fun K' hK' => ab ?_) | refine hK' _ _ (ac fun Y hY => ab ?_) | refine cJ rfl (ac fun Y hY => ab ?_) | refine bI fun K' hK' => ab ?_ | refine bX ?_); (try clear hK' K'); (try dsimp only [aop]); try simp only [go_sem, ↓reduceIte, Nat.reduceEqDiff, Nat.reduceLT, Nat.reduceLeDiff, Nat.reduceAdd, Nat.reduceSub, Nat.reduceMul, Nat.reduceBEq, Nat.reduceBNe, Nat.reducePow, Int.reduceToNat, Int.reduceLE, Int.reduceLT, Int.reduceMul, Int.reduceEq, Int.reducePow, Int.reduceAdd, Int.reduceSub, Int.reduceNeg, reduceCtorEq, ag, Tryz.results13, hl']) | (with_reducible first | refine ai ?_ | refine bj rfl ?_ | refine aS ?_ | refine cp ?_ | refine dk ?_ ?_ | refine al ?_ | refine am ?_ | refine aL fun K hK => ?_ | refine ax ?_ | refine ar ?_ | refine bN ?_ | refine bg ?_ | refine aO ?_ | refine bL ?_ | refine bo ?_ | refine aq ?_ | refine aC ?_ | refine az ?_ | refine bq ?_ | refine bx ?_ | refine b8 ?_ | refine b7 ?_ | refine bl ?_ | refine dq fun K hK => ?_) | (with_reducible refine hK _ ?_; clear hK K) | (with_reducible refine hK _ _ ?_ ?_; (· kernel_rfl); clear hK K) | ((with_reducible first | refine aR ?_ ?_ | refine ah ?_ ?_ | refine cR ?_ ?_); (· decide)) | (with_reducible refine bm tk0 ag ?_ ?_; (· kernel_rfl)) | ((with_reducible first | refine bK (fun hc => ?_) (fun hc => ?_) | refine bV (fun hc => ?_) (fun hc => ?_)) <;> (try simp only [decide_eq_true_eq, decide_eq_false_iff_not, Bool.not_true, Bool.not_false, Bool.not_eq_true', Bool.not_eq_false'] at hc) <;> (try (exfalso; omega))) | (with_reducible refine bQ ?_ ?_; (· (try and_intros) <;> first | omega | assumption | (simp only [List.length_append, List.length_map, List.length_cons, List.length_nil] <;> omega))) | (with_reducible refine cS ?_) | fail)
    rfl
  rw [if_neg hl]
  have hl' : ((65536 : Int) < (l.length : Int)) = False := eq_false (by omega)
  obtain ⟨R, hR⟩ : ∃ R, R = eQ (l.length + 1) [] 0 l := ⟨_, rfl⟩
  rw [← hR]
  refine aK [] Tryz.func13 rfl Tryz.ntmps13 (Nat.le_of_ble_eq_true rfl) (Nat.le_of_ble_eq_true rfl) fun w0 G0 B0 Pr hB0 => ?_
  simp only [aQ, aI, List.cons_append, List.nil_append]
  repeat' (first | (with_reducible refine hY _ ?_; clear hY Y) | ((with_reducible first | refine av rfl (aD fun K' hK' => ab ?_) | refine hK' _ (ac fun Y hY => ab ?_) | refine bR rfl (ac fun Y hY => ab ?_) | refine ac fun Y hY => ab ?_ | refine aD fun K' hK' => ab ?_ | refine ae tk0 ag (ac fun Y hY => ab ?_) | refine ab ?_ | refine ap ?_ | refine bY rfl (bI fun K' hK' => ab ?_) | refine hK' _ _ (ac fun Y hY => ab ?_) | refine cJ rfl (ac fun Y hY => ab ?_) | refine bI fun K' hK' => ab ?_ | refine bX ?_); (try clear hK' K'); (try dsimp only [aop]); try simp only [go_sem, ↓reduceIte, Nat.reduceEqDiff, Nat.reduceLT, Nat.reduceLeDiff, Nat.reduceAdd, Nat.reduceSub, Nat.reduceMul, Nat.reduceBEq, Nat.reduceBNe, Nat.reducePow, Int.reduceToNat, Int.reduceLE, Int.reduceLT, Int.reduceMul, Int.reduceEq, Int.reducePow, Int.reduceAdd, Int.reduceSub, Int.reduceNeg, reduceCtorEq, ag, Tryz.results13, hl']) | (with_reducible first | refine ai ?_ | refine bj rfl ?_ | refine aS ?_ | refine cp ?_ | refine dk ?_ ?_ | refine al ?_ | refine am ?_ | refine aL fun K hK => ?_ | refine ax ?_ | refine ar ?_ | refine bN ?_ | refine bg ?_ | refine aO ?_ | refine bL ?_ | refine bo ?_ | refine aq ?_ | refine aC ?_ | refine az ?_ | refine bq ?_ | refine bx ?_ | refine b8 ?_ | refine b7 ?_ | refine bl ?_ | refine dq fun K hK => ?_) | (with_reducible refine hK _ ?_; clear hK K) | (with_reducible refine hK _ _ ?_ ?_; (· kernel_rfl); clear hK K) | ((with_reducible first | refine aR ?_ ?_ | refine ah ?_ ?_ | refine cR ?_ ?_); (· decide)) | (with_reducible refine bm tk0 ag ?_ ?_; (· kernel_rfl)) | ((with_reducible first | refine bK (fun hc => ?_) (fun hc => ?_) | refine bV (fun hc => ?_) (fun hc => ?_)) <;> (try simp only [decide_eq_true_eq, decide_eq_false_iff_not, Bool.not_true, Bool.not_false, Bool.not_eq_true', Bool.not_eq_false'] at hc) <;> (try (exfalso; omega))) | (with_reducible refine bQ ?_ ?_; (· (try and_intros) <;> first | omega | assumption | (simp only [List.length_append, List.length_map, List.length_cons, List.length_nil] <;> omega))) | (with_reducible refine cS ?_) | fail)
  refine fw (gk (b := 10123) (t := 5) 85 (by decide) (by decide) rfl rfl) ?_
  refine cw (α := List Tok × Nat) (fun p => [(0, bs l), (5, .sl (p.1.flatMap ee) p.1.length (.tok 10123)), (6, .c (.int .i64 (p.2 : Int))), (10123, .bt p.1.length 85)])
    (fun p => p.2 ≤ l.length ∧ p.1.length ≤ p.2 ∧ fD p.1 p.2 (l.drop p.2) = R) (fun p => l.length - p.2) ([], 0) [0, 5, 6] ?_ ⟨Nat.zero_le _, Nat.zero_le _, hR.symm⟩ ?_
  · simp only [go_sem, ↓reduceIte, Nat.reduceEqDiff, Nat.reduceLT, Nat.reduceLeDiff, Nat.reduceAdd, Nat.reduceSub, Nat.reduceMul, Nat.reduceBEq, Nat.reduceBNe, Nat.reducePow, Int.reduceToNat, Int.reduceLE, Int.reduceLT, Int.reduceMul, Int.reduceEq, Int.reducePow, Int.reduceAdd, Int.reduceSub, Int.reduceNeg, reduceCtorEq] <;> rfl
  rintro ⟨acc, a⟩ ⟨ha, hacc, hs⟩ ih
  simp only at ih ha hacc hs ⊢
  clear hR
  by_cases hlt : a < l.length
  case neg =>
    have hlt' : ((a : Int) < (l.length : Int)) = False := eq_false (by omega)
    have he : l.drop a = [] := List.drop_of_length_le (by omega)
    rw [he, lm] at hs
    subst hs
    repeat' (first | (with_reducible refine hY _ ?_; clear hY Y) | ((with_reducible first | refine av rfl (aD fun K' hK' => ab ?_) | refine hK' _ (ac fun Y hY => ab ?_) | refine bR rfl (ac fun Y hY => ab ?_) | refine ac fun Y hY => ab ?_ | refine aD fun K' hK' => ab ?_ | refine ae tk0 ag (ac fun Y hY => ab ?_) | refine ab ?_ | refine ap ?_ | refine bY rfl (bI fun K' hK' => ab ?_) | refine hK' _ _ (ac fun Y hY => ab ?_) | refine cJ rfl (ac fun Y hY => ab ?_) | refine bI fun K' hK' => ab ?_ | refine bX ?_); (try clear hK' K'); (try dsimp only [aop]); try simp only [go_sem, ↓reduceIte, Nat.reduceEqDiff, Nat.reduceLT, Nat.reduceLeDiff, Nat.reduceAdd, Nat.reduceSub, Nat.reduceMul, Nat.reduceBEq, Nat.reduceBNe, Nat.reducePow, Int.reduceToNat, Int.reduceLE, Int.reduceLT, Int.reduceMul, Int.reduceEq, Int.reducePow, Int.reduceAdd, Int.reduceSub, Int.reduceNeg, reduceCtorEq, ag, Tryz.results13, hlt']) | (with_reducible first | refine ai ?_ | refine bj rfl ?_ | refine aS ?_ | refine cp ?_ | refine dk ?_ ?_ | refine al ?_ | refine am ?_ | refine aL fun K hK => ?_ | refine ax ?_ | refine ar ?_ | refine bN ?_ | refine bg ?_ | refine aO ?_ | refine bL ?_ | refine bo ?_ | refine aq ?_ | refine aC ?_ | refine az ?_ | refine bq ?_ | refine bx ?_ | refine b8 ?_ | refine b7 ?_ | refine bl ?_ | refine dq fun K hK => ?_) | (with_reducible refine hK _ ?_; clear hK K) | (with_reducible refine hK _ _ ?_ ?_; (· kernel_rfl); clear hK K) | ((with_reducible first | refine aR ?_ ?_ | refine ah ?_ ?_ | refine cR ?_ ?_); (· decide)) | (with_reducible refine bm tk0 ag ?_ ?_; (· kernel_rfl)) | ((with_reducible first | refine bK (fun hc => ?_) (fun hc => ?_) | refine bV (fun hc => ?_) (fun hc => ?_)) <;> (try simp only [decide_eq_true_eq, decide_eq_false_iff_not, Bool.not_true, Bool.not_false, Bool.not_eq_true', Bool.not_eq_false'] at hc) <;> (try (exfalso; omega))) | (with_reducible refine bQ ?_ ?_; (· (try and_intros) <;> first | omega | assumption | (simp only [List.length_append, List.length_map, List.length_cons, List.length_nil] <;> omega))) | (with_reducible refine cS ?_) | fail)
    rfl
  have hlt' : ((a : Int) < (l.length : Int)) = True := eq_true (by omega)
  have h0 : 0 < (l.drop a).length := by rw [List.length_drop]; omega
  have hgc := gp hlt
  have hdr := List.drop_eq_getElem_cons hlt
  generalize l[a] = c at *
  have h1 := yK l a ha (by omega)
  have h2 := zR l a hlt (by omega)
  have hw1 : IntKind.i64.wrap ((a : Int) + 1) = ((a + 1 : Nat) : Int) := by rw [bO (by omega) (by omega)]; rfl
  have hwl := qG (l.drop a)
  have hwle := fu wordL (l.drop a)
  have hdle := fu digitsL (l.drop a)
  have hacl := fH (f := ee) (k := 3) (fun _ => rfl) acc
  have hd0 : 0 < bP digitsL (l.drop a) ↔ dF c = true := by
    rw [among_pos]
    constructor
    · rintro ⟨c', t, e, h⟩
      rw [hdr] at e; cases e
      rw [jI] at h; exact h
    · intro h; exact ⟨c, _, hdr, by rw [jI]; exact h⟩
  have hl0 : 0 < bP lettersL (l.drop a) ↔ dI c = true := by
    rw [among_pos]
    constructor
    · rintro ⟨c', t, e, h⟩
      rw [hdr] at e; cases e
      rw [gR] at h; exact h
    · intro h; exact ⟨c, _, hdr, by rw [gR]; exact h⟩
  have hdin : ∀ k, k < bP digitsL (l.drop a) → a + k < l.length ∧ dF (l.getD (a + k) 0) = true := fun k hk => by
    obtain ⟨h3, h4⟩ := vo hk
    rw [jw, jI] at h4
    rw [List.length_drop] at h3
    exact ⟨by omega, h4⟩
  have hdout : a + bP digitsL (l.drop a) < l.length → dF (l.getD (a + bP digitsL (l.drop a)) 0) = false := fun h => by
    have h3 := ru (p := fun c => digitsL.contains c) (r := l.drop a) (by show bP digitsL _ < _; rw [List.length_drop]; omega)
    rw [jw, jI] at h3
    exact h3
  generalize hD : bP digitsL (l.drop a) = D at *
  generalize hN : nN (l.drop a) = n at *
  repeat' (first | (with_reducible refine hY _ ?_; clear hY Y) | ((with_reducible first | refine av rfl (aD fun K' hK' => ab ?_) | refine hK' _ (ac fun Y hY => ab ?_) | refine bR rfl (ac fun Y hY => ab ?_) | refine ac fun Y hY => ab ?_ | refine aD fun K' hK' => ab ?_ | refine ae tk0 ag (ac fun Y hY => ab ?_) | refine ab ?_ | refine ap ?_ | refine bY rfl (bI fun K' hK' => ab ?_) | refine hK' _ _ (ac fun Y hY => ab ?_) | refine cJ rfl (ac fun Y hY => ab ?_) | refine bI fun K' hK' => ab ?_ | refine bX ?_); (try clear hK' K'); (try dsimp only [aop]); try simp only [go_sem, ↓reduceIte, Nat.reduceEqDiff, Nat.reduceLT, Nat.reduceLeDiff, Nat.reduceAdd, Nat.reduceSub, Nat.reduceMul, Nat.reduceBEq, Nat.reduceBNe, Nat.reducePow, Int.reduceToNat, Int.reduceLE, Int.reduceLT, Int.reduceMul, Int.reduceEq, Int.reducePow, Int.reduceAdd, Int.reduceSub, Int.reduceNeg, reduceCtorEq, ag, Tryz.results13, hlt', hgc]) | (with_reducible first | refine ai ?_ | refine bj rfl ?_ | refine aS ?_ | refine cp ?_ | refine dk ?_ ?_ | refine al ?_ | refine am ?_ | refine aL fun K hK => ?_ | refine ax ?_ | refine ar ?_ | refine bN ?_ | refine bg ?_ | refine aO ?_ | refine bL ?_ | refine bo ?_ | refine aq ?_ | refine aC ?_ | refine az ?_ | refine bq ?_ | refine bx ?_ | refine b8 ?_ | refine b7 ?_ | refine bl ?_ | refine dq fun K hK => ?_) | (with_reducible refine hK _ ?_; clear hK K) | (with_reducible refine hK _ _ ?_ ?_; (· kernel_rfl); clear hK K) | ((with_reducible first | refine aR ?_ ?_ | refine ah ?_ ?_ | refine cR ?_ ?_); (· decide)) | (with_reducible refine bm tk0 ag ?_ ?_; (· kernel_rfl)) | ((with_reducible first | refine bK (fun hc => ?_) (fun hc => ?_) | refine bV (fun hc => ?_) (fun hc => ?_)) <;> (try simp only [decide_eq_true_eq, decide_eq_false_iff_not, Bool.not_true, Bool.not_false, Bool.not_eq_true', Bool.not_eq_false'] at hc) <;> (try (exfalso; omega))) | (with_reducible refine bQ ?_ ?_; (· (try and_intros) <;> first | omega | assumption | (simp only [List.length_append, List.length_map, List.length_cons, List.length_nil] <;> omega))) | (with_reducible refine aa (h1) ?_) | (with_reducible refine cS ?_) | fail)
  refine xq 2 (fun s => gW [0, 5, 6, 7, 8, 9] s = [(0, bs l), (5, .sl (acc.flatMap ee) acc.length (.tok 10123)), (6, .c (.int .i64 (a : Int))), (7, .c (.int .u8 (c.toNat : Int))), (8, .c (.int .i64 (n : Int))), (9, .c (.int .i64 (D : Int))), (10123, .bt acc.length 85)]) ?_ ?_
  case refine_2 =>
    refine cw (α := Nat) (fun k => [(0, bs l), (5, .sl (acc.flatMap ee) acc.length (.tok 10123)), (6, .c (.int .i64 (a : Int))), (7, .c (.int .u8 (c.toNat : Int))), (8, .c (.int .i64 (n : Int))), (9, .c (.int .i64 (k : Int))), (10123, .bt acc.length 85)])
      (fun k => k ≤ D) (fun k => D - k) 0 [0, 5, 6, 7, 8, 9] ?_ (Nat.zero_le _) ?_
    · simp only [go_sem, ↓reduceIte, Nat.reduceEqDiff, Nat.reduceLT, Nat.reduceLeDiff, Nat.reduceAdd, Nat.reduceSub, Nat.reduceMul, Nat.reduceBEq, Nat.reduceBNe, Nat.reducePow, Int.reduceToNat, Int.reduceLE, Int.reduceLT, Int.reduceMul, Int.reduceEq, Int.reducePow, Int.reduceAdd, Int.reduceSub, Int.reduceNeg, reduceCtorEq] <;> rfl
    intro k hk ihk
    clear ih h1 h2 hs hl0 hwl hd0
    rw [List.length_drop] at hdle
    have hw2 : IntKind.i64.wrap ((a : Int) + (k : Int)) = ((a + k : Nat) : Int) := by rw [bO (by omega) (by omega)]; omega
    have hw3 : IntKind.i64.wrap ((k : Int) + 1) = ((k + 1 : Nat) : Int) := by rw [bO (by omega) (by omega)]; rfl
    by_cases hkD : k < D
    · obtain ⟨h3, h4⟩ := hdin k hkD
      have h3' : (((a + k : Nat) : Int) < (l.length : Int)) = True := eq_true (by omega)
      clear hdin hdout
      generalize hgk : l.getD (a + k) 0 = ck at *
      have h5 := oH ck
      rw [h4] at h5
      repeat' (first | (with_reducible refine hY _ ?_; clear hY Y) | ((with_reducible first | refine av rfl (aD fun K' hK' => ab ?_) | refine hK' _ (ac fun Y hY => ab ?_) | refine bR rfl (ac fun Y hY => ab ?_) | refine ac fun Y hY => ab ?_ | refine aD fun K' hK' => ab ?_ | refine ae tk0 ag (ac fun Y hY => ab ?_) | refine ab ?_ | refine ap ?_ | refine bY rfl (bI fun K' hK' => ab ?_) | refine hK' _ _ (ac fun Y hY => ab ?_) | refine cJ rfl (ac fun Y hY => ab ?_) | refine bI fun K' hK' => ab ?_ | refine bX ?_); (try clear hK' K'); (try dsimp only [aop]); try simp only [go_sem, ↓reduceIte, Nat.reduceEqDiff, Nat.reduceLT, Nat.reduceLeDiff, Nat.reduceAdd, Nat.reduceSub, Nat.reduceMul, Nat.reduceBEq, Nat.reduceBNe, Nat.reducePow, Int.reduceToNat, Int.reduceLE, Int.reduceLT, Int.reduceMul, Int.reduceEq, Int.reducePow, Int.reduceAdd, Int.reduceSub, Int.reduceNeg, reduceCtorEq, ag, Tryz.results13, h3', hw2, hw3, hgk]) | (with_reducible first | refine ai ?_ | refine bj rfl ?_ | refine aS ?_ | refine cp ?_ | refine dk ?_ ?_ | refine al ?_ | refine am ?_ | refine aL fun K hK => ?_ | refine ax ?_ | refine ar ?_ | refine bN ?_ | refine bg ?_ | refine aO ?_ | refine bL ?_ | refine bo ?_ | refine aq ?_ | refine aC ?_ | refine az ?_ | refine bq ?_ | refine bx ?_ | refine b8 ?_ | refine b7 ?_ | refine bl ?_ | refine dq fun K hK => ?_) | (with_reducible refine hK _ ?_; clear hK K) | (with_reducible refine hK _ _ ?_ ?_; (· kernel_rfl); clear hK K) | ((with_reducible first | refine aR ?_ ?_ | refine ah ?_ ?_ | refine cR ?_ ?_); (· decide)) | (with_reducible refine bm tk0 ag ?_ ?_; (· kernel_rfl)) | ((with_reducible first | refine bK (fun hc => ?_) (fun hc => ?_) | refine bV (fun hc => ?_) (fun hc => ?_)) <;> (try simp only [decide_eq_true_eq, decide_eq_false_iff_not, Bool.not_true, Bool.not_false, Bool.not_eq_true', Bool.not_eq_false'] at hc) <;> (try (exfalso; omega))) | (with_reducible refine bQ ?_ ?_; (· (try and_intros) <;> first | omega | assumption | (simp only [List.length_append, List.length_map, List.length_cons, List.length_nil] <;> omega))) | (with_reducible refine aa (h5) ?_) | (with_reducible refine cS ?_) | fail)
      refine bA [0, 5, 6, 7, 8, 9] (by simp only [go_sem, ↓reduceIte, Nat.reduceEqDiff, Nat.reduceLT, Nat.reduceLeDiff, Nat.reduceAdd, Nat.reduceSub, Nat.reduceMul, Nat.reduceBEq, Nat.reduceBNe, Nat.reducePow, Int.reduceToNat, Int.reduceLE, Int.reduceLT, Int.reduceMul, Int.reduceEq, Int.reducePow, Int.reduceAdd, Int.reduceSub, Int.reduceNeg, reduceCtorEq]; exact rfl) ?_
      exact ihk (k + 1) (by omega) (by omega)
    · obtain rfl : k = D := by omega
      by_cases h3 : a + k < l.length
      · have h3' : (((a + k : Nat) : Int) < (l.length : Int)) = True := eq_true (by omega)
        have h4 := hdout h3
        clear hdin hdout
        generalize hgk : l.getD (a + k) 0 = ck at *
        have h5 := oH ck
        rw [h4] at h5
        repeat' (first | (with_reducible refine hY _ ?_; clear hY Y) | ((with_reducible first | refine av rfl (aD fun K' hK' => ab ?_) | refine hK' _ (ac fun Y hY => ab ?_) | refine bR rfl (ac fun Y hY => ab ?_) | refine ac fun Y hY => ab ?_ | refine aD fun K' hK' => ab ?_ | refine ae tk0 ag (ac fun Y hY => ab ?_) | refine ab ?_ | refine ap ?_ | refine bY rfl (bI fun K' hK' => ab ?_) | refine hK' _ _ (ac fun Y hY => ab ?_) | refine cJ rfl (ac fun Y hY => ab ?_) | refine bI fun K' hK' => ab ?_ | refine bX ?_); (try clear hK' K'); (try dsimp only [aop]); try simp only [go_sem, ↓reduceIte, Nat.reduceEqDiff, Nat.reduceLT, Nat.reduceLeDiff, Nat.reduceAdd, Nat.reduceSub, Nat.reduceMul, Nat.reduceBEq, Nat.reduceBNe, Nat.reducePow, Int.reduceToNat, Int.reduceLE, Int.reduceLT, Int.reduceMul, Int.reduceEq, Int.reducePow, Int.reduceAdd, Int.reduceSub, Int.reduceNeg, reduceCtorEq, ag, Tryz.results13, h3', hw2, hw3, hgk]) | (with_reducible first | refine ai ?_ | refine bj rfl ?_ | refine aS ?_ | refine cp ?_ | refine dk ?_ ?_ | refine al ?_ | refine am ?_ | refine aL fun K hK => ?_ | refine ax ?_ | refine ar ?_ | refine bN ?_ | refine bg ?_ | refine aO ?_ | refine bL ?_ | refine bo ?_ | refine aq ?_ | refine aC ?_ | refine az ?_ | refine bq ?_ | refine bx ?_ | refine b8 ?_ | refine b7 ?_ | refine bl ?_ | refine dq fun K hK => ?_) | (with_reducible refine hK _ ?_; clear hK K) | (with_reducible refine hK _ _ ?_ ?_; (· kernel_rfl); clear hK K) | ((with_reducible first | refine aR ?_ ?_ | refine ah ?_ ?_ | refine cR ?_ ?_); (· decide)) | (with_reducible refine bm tk0 ag ?_ ?_; (· kernel_rfl)) | ((with_reducible first | refine bK (fun hc => ?_) (fun hc => ?_) | refine bV (fun hc => ?_) (fun hc => ?_)) <;> (try simp only [decide_eq_true_eq, decide_eq_false_iff_not, Bool.not_true, Bool.not_false, Bool.not_eq_true', Bool.not_eq_false'] at hc) <;> (try (exfalso; omega))) | (with_reducible refine bQ ?_ ?_; (· (try and_intros) <;> first | omega | assumption | (simp only [List.length_append, List.length_map, List.length_cons, List.length_nil] <;> omega))) | (with_reducible refine aa (h5) ?_) | (with_reducible refine cS ?_) | fail)
        refine yi ?_
        simp only [go_sem, ↓reduceIte, Nat.reduceEqDiff, Nat.reduceLT, Nat.reduceLeDiff, Nat.reduceAdd, Nat.reduceSub, Nat.reduceMul, Nat.reduceBEq, Nat.reduceBNe, Nat.reducePow, Int.reduceToNat, Int.reduceLE, Int.reduceLT, Int.reduceMul, Int.reduceEq, Int.reducePow, Int.reduceAdd, Int.reduceSub, Int.reduceNeg, reduceCtorEq] <;> rfl
      · have h3' : (((a + k : Nat) : Int) < (l.length : Int)) = False := eq_false (by omega)
        repeat' (first | (with_reducible refine hY _ ?_; clear hY Y) | ((with_reducible first | refine av rfl (aD fun K' hK' => ab ?_) | refine hK' _ (ac fun Y hY => ab ?_) | refine bR rfl (ac fun Y hY => ab ?_) | refine ac fun Y hY => ab ?_ | refine aD fun K' hK' => ab ?_ | refine ae tk0 ag (ac fun Y hY => ab ?_) | refine ab ?_ | refine ap ?_ | refine bY rfl (bI fun K' hK' => ab ?_) | refine hK' _ _ (ac fun Y hY => ab ?_) | refine cJ rfl (ac fun Y hY => ab ?_) | refine bI fun K' hK' => ab ?_ | refine bX ?_); (try clear hK' K'); (try dsimp only [aop]); try simp only [go_sem, ↓reduceIte, Nat.reduceEqDiff, Nat.reduceLT, Nat.reduceLeDiff, Nat.reduceAdd, Nat.reduceSub, Nat.reduceMul, Nat.reduceBEq, Nat.reduceBNe, Nat.reducePow, Int.reduceToNat, Int.reduceLE, Int.reduceLT, Int.reduceMul, Int.reduceEq, Int.reducePow, Int.reduceAdd, Int.reduceSub, Int.reduceNeg, reduceCtorEq, ag, Tryz.results13, h3', hw2, hw3]) | (with_reducible first | refine ai ?_ | refine bj rfl ?_ | refine aS ?_ | refine cp ?_ | refine dk ?_ ?_ | refine al ?_ | refine am ?_ | refine aL fun K hK => ?_ | refine ax ?_ | refine ar ?_ | refine bN ?_ | refine bg ?_ | refine aO ?_ | refine bL ?_ | refine bo ?_ | refine aq ?_ | refine aC ?_ | refine az ?_ | refine bq ?_ | refine bx ?_ | refine b8 ?_ | refine b7 ?_ | refine bl ?_ | refine dq fun K hK => ?_) | (with_reducible refine hK _ ?_; clear hK K) | (with_reducible refine hK _ _ ?_ ?_; (· kernel_rfl); clear hK K) | ((with_reducible first | refine aR ?_ ?_ | refine ah ?_ ?_ | refine cR ?_ ?_); (· decide)) | (with_reducible refine bm tk0 ag ?_ ?_; (· kernel_rfl)) | ((with_reducible first | refine bK (fun hc => ?_) (fun hc => ?_) | refine bV (fun hc => ?_) (fun hc => ?_)) <;> (try simp only [decide_eq_true_eq, decide_eq_false_iff_not, Bool.not_true, Bool.not_false, Bool.not_eq_true', Bool.not_eq_false'] at hc) <;> (try (exfalso; omega))) | (with_reducible refine bQ ?_ ?_; (· (try and_intros) <;> first | omega | assumption | (simp only [List.length_append, List.length_map, List.length_cons, List.length_nil] <;> omega))) | (with_reducible refine cS ?_) | fail)
        refine yi ?_
        simp only [go_sem, ↓reduceIte, Nat.reduceEqDiff, Nat.reduceLT, Nat.reduceLeDiff, Nat.reduceAdd, Nat.reduceSub, Nat.reduceMul, Nat.reduceBEq, Nat.reduceBNe, Nat.reducePow, Int.reduceToNat, Int.reduceLE, Int.reduceLT, Int.reduceMul, Int.reduceEq, Int.reducePow, Int.reduceAdd, Int.reduceSub, Int.reduceNeg, reduceCtorEq] <;> rfl
  intro s hss
  refine bo ?_
  refine al ?_
  refine uw hss ?_
  clear hss hdin hdout h1
  rw [List.length_drop] at hdle hwle
  by_cases cb : blanksL.contains c = true
  · rw [hdr, pL cb] at hs
    have hc : c.toNat = 32 ∨ c.toNat = 9 ∨ c.toNat = 10 := by
      have := List.contains_iff_mem.1 cb
      simp only [blanksL, List.mem_cons, List.not_mem_nil, or_false] at this
      rcases this with rfl | rfl | rfl <;> decide
    clear hdr hgc hl0 hwl hd0
    repeat' (first | (with_reducible refine hY _ ?_; clear hY Y) | ((with_reducible first | refine av rfl (aD fun K' hK' => ab ?_) | refine hK' _ (ac fun Y hY => ab ?_) | refine bR rfl (ac fun Y hY => ab ?_) | refine ac fun Y hY => ab ?_ | refine aD fun K' hK' => ab ?_ | refine ae tk0 ag (ac fun Y hY => ab ?_) | refine ab ?_ | refine ap ?_ | refine bY rfl (bI fun K' hK' => ab ?_) | refine hK' _ _ (ac fun Y hY => ab ?_) | refine cJ rfl (ac fun Y hY => ab ?_) | refine bI fun K' hK' => ab ?_ | refine bX ?_); (try clear hK' K'); (try dsimp only [aop]); try simp only [go_sem, ↓reduceIte, Nat.reduceEqDiff, Nat.reduceLT, Nat.reduceLeDiff, Nat.reduceAdd, Nat.reduceSub, Nat.reduceMul, Nat.reduceBEq, Nat.reduceBNe, Nat.reducePow, Int.reduceToNat, Int.reduceLE, Int.reduceLT, Int.reduceMul, Int.reduceEq, Int.reducePow, Int.reduceAdd, Int.reduceSub, Int.reduceNeg, reduceCtorEq, ag, Tryz.results13, hw1]) | (with_reducible first | refine ai ?_ | refine bj rfl ?_ | refine aS ?_ | refine cp ?_ | refine dk ?_ ?_ | refine al ?_ | refine am ?_ | refine aL fun K hK => ?_ | refine ax ?_ | refine ar ?_ | refine bN ?_ | refine bg ?_ | refine aO ?_ | refine bL ?_ | refine bo ?_ | refine aq ?_ | refine aC ?_ | refine az ?_ | refine bq ?_ | refine bx ?_ | refine b8 ?_ | refine b7 ?_ | refine bl ?_ | refine dq fun K hK => ?_) | (with_reducible refine hK _ ?_; clear hK K) | (with_reducible refine hK _ _ ?_ ?_; (· kernel_rfl); clear hK K) | ((with_reducible first | refine aR ?_ ?_ | refine ah ?_ ?_ | refine cR ?_ ?_); (· decide)) | (with_reducible refine bm tk0 ag ?_ ?_; (· kernel_rfl)) | ((with_reducible first | refine bK (fun hc => ?_) (fun hc => ?_) | refine bV (fun hc => ?_) (fun hc => ?_)) <;> (try simp only [decide_eq_true_eq, decide_eq_false_iff_not, Bool.not_true, Bool.not_false, Bool.not_eq_true', Bool.not_eq_false'] at hc) <;> (try (exfalso; omega))) | (with_reducible refine bQ ?_ ?_; (· (try and_intros) <;> first | omega | assumption | (simp only [List.length_append, List.length_map, List.length_cons, List.length_nil] <;> omega))) | (with_reducible refine aa (h2) ?_) | (with_reducible refine cS ?_) | fail)
    all_goals (refine bA [0, 5, 6] (by simp only [go_sem, ↓reduceIte, Nat.reduceEqDiff, Nat.reduceLT, Nat.reduceLeDiff, Nat.reduceAdd, Nat.reduceSub, Nat.reduceMul, Nat.reduceBEq, Nat.reduceBNe, Nat.reducePow, Int.reduceToNat, Int.reduceLE, Int.reduceLT, Int.reduceMul, Int.reduceEq, Int.reducePow, Int.reduceAdd, Int.reduceSub, Int.reduceNeg, reduceCtorEq]; exact rfl) ?_; exact ih (acc, a + 1) ⟨by simp only; omega, by simp only; omega, hs⟩ (by simp only; omega))
  have hcb : ¬ c.toNat = 32 ∧ ¬ c.toNat = 9 ∧ ¬ c.toNat = 10 := by
    refine ⟨fun e => cb ?_, fun e => cb ?_, fun e => cb ?_⟩
    · obtain rfl : c = 32 := UInt8.toNat_inj.1 e
      decide
    · obtain rfl : c = 9 := UInt8.toNat_inj.1 e
      decide
    · obtain rfl : c = 10 := UInt8.toNat_inj.1 e
      decide
  have c32 : ((c.toNat : Int) = 32) = False := eq_false (by omega)
  have c9 : ((c.toNat : Int) = 9) = False := eq_false (by omega)
  have c10 : ((c.toNat : Int) = 10) = False := eq_false (by omega)
  have hb0 : ¬ 0 < bP blanksL (l.drop a) := fun h => by
    obtain ⟨c', t, e, h⟩ := among_pos.1 h
    rw [hdr] at e; cases e
    exact cb h
  clear cb
  generalize hgd : l.getD (a + 1) 0 = d at *
  have hsl : slashL.isPrefixOf (l.drop a) = true ↔ c.toNat = 47 ∧ a + 1 < l.length ∧ d.toNat = 47 := by
    rw [hdr]
    show ((47 : UInt8) == c && [(47 : UInt8)].isPrefixOf (l.drop (a + 1))) = true ↔ _
    rw [Bool.and_eq_true, beq_iff_eq]
    by_cases h1 : a + 1 < l.length
    · rw [List.drop_eq_getElem_cons h1, ← gp h1, hgd]
      show (47 : UInt8) = c ∧ ((47 : UInt8) == d && true) = true ↔ _
      rw [Bool.and_true, beq_iff_eq]
      constructor
      · rintro ⟨rfl, rfl⟩; exact ⟨rfl, h1, rfl⟩
      · rintro ⟨e1, _, e2⟩
        exact ⟨UInt8.toNat_inj.1 e1.symm, UInt8.toNat_inj.1 e2.symm⟩
    · rw [List.drop_of_length_le (by omega)]
      constructor
      · rintro ⟨_, h⟩; cases h
      · rintro ⟨_, h, _⟩; exact absurd h h1
  by_cases c2 : slashL.isPrefixOf (l.drop a) = true
  · have hst : dC a (l.drop a) = .skip ((l.drop a).takeWhile (· != 10)).length := by unfold dC; rw [if_neg hb0, if_pos c2]
    have hn := gq hst
    rw [fd h0 hst] at hs
    rw [List.length_drop] at hn
    rw [List.drop_drop] at hs
    obtain ⟨e1, e2, e3⟩ := hsl.1 c2
    have hin : ∀ j, j < ((l.drop a).takeWhile (· != 10)).length → a + j < l.length ∧ ¬ (l.getD (a + j) 0).toNat = 10 := fun j hj => by
      obtain ⟨h3, h4⟩ := vo hj
      rw [jw] at h4
      rw [List.length_drop] at h3
      refine ⟨by omega, fun e => ?_⟩
      rw [UInt8.toNat_inj (b := 10) |>.1 e] at h4
      exact absurd h4 (by decide)
    have hout : a + ((l.drop a).takeWhile (· != 10)).length < l.length → (l.getD (a + ((l.drop a).takeWhile (· != 10)).length) 0).toNat = 10 := fun h => by
      have h3 := ru (p := (· != (10 : UInt8))) (r := l.drop a) (by rw [List.length_drop]; omega)
      rw [jw] at h3
      simp only [bne_eq_false_iff_eq] at h3
      rw [h3]; rfl
    generalize ((l.drop a).takeWhile (· != 10)).length = m at *
    clear hst h0 hb0 hsl c2 hdr hl0 hwl hd0 hD hN
    have e1' : ((c.toNat : Int) = 47) = True := eq_true (by omega)
    have e2' : (((a + 1 : Nat) : Int) < (l.length : Int)) = True := eq_true (by omega)
    have e3' : ((d.toNat : Int) = 47) = True := eq_true (by omega)
    repeat' (first | (with_reducible refine hY _ ?_; clear hY Y) | ((with_reducible first | refine av rfl (aD fun K' hK' => ab ?_) | refine hK' _ (ac fun Y hY => ab ?_) | refine bR rfl (ac fun Y hY => ab ?_) | refine ac fun Y hY => ab ?_ | refine aD fun K' hK' => ab ?_ | refine ae tk0 ag (ac fun Y hY => ab ?_) | refine ab ?_ | refine ap ?_ | refine bY rfl (bI fun K' hK' => ab ?_) | refine hK' _ _ (ac fun Y hY => ab ?_) | refine cJ rfl (ac fun Y hY => ab ?_) | refine bI fun K' hK' => ab ?_ | refine bX ?_); (try clear hK' K'); (try dsimp only [aop]); try simp only [go_sem, ↓reduceIte, Nat.reduceEqDiff, Nat.reduceLT, Nat.reduceLeDiff, Nat.reduceAdd, Nat.reduceSub, Nat.reduceMul, Nat.reduceBEq, Nat.reduceBNe, Nat.reducePow, Int.reduceToNat, Int.reduceLE, Int.reduceLT, Int.reduceMul, Int.reduceEq, Int.reducePow, Int.reduceAdd, Int.reduceSub, Int.reduceNeg, reduceCtorEq, ag, Tryz.results13, hw1, hgd, c32, c9, c10, e1', e2', e3']) | (with_reducible first | refine ai ?_ | refine bj rfl ?_ | refine aS ?_ | refine cp ?_ | refine dk ?_ ?_ | refine al ?_ | refine am ?_ | refine aL fun K hK => ?_ | refine ax ?_ | refine ar ?_ | refine bN ?_ | refine bg ?_ | refine aO ?_ | refine bL ?_ | refine bo ?_ | refine aq ?_ | refine aC ?_ | refine az ?_ | refine bq ?_ | refine bx ?_ | refine b8 ?_ | refine b7 ?_ | refine bl ?_ | refine dq fun K hK => ?_) | (with_reducible refine hK _ ?_; clear hK K) | (with_reducible refine hK _ _ ?_ ?_; (· kernel_rfl); clear hK K) | ((with_reducible first | refine aR ?_ ?_ | refine ah ?_ ?_ | refine cR ?_ ?_); (· decide)) | (with_reducible refine bm tk0 ag ?_ ?_; (· kernel_rfl)) | ((with_reducible first | refine bK (fun hc => ?_) (fun hc => ?_) | refine bV (fun hc => ?_) (fun hc => ?_)) <;> (try simp only [decide_eq_true_eq, decide_eq_false_iff_not, Bool.not_true, Bool.not_false, Bool.not_eq_true', Bool.not_eq_false'] at hc) <;> (try (exfalso; omega))) | (with_reducible refine bQ ?_ ?_; (· (try and_intros) <;> first | omega | assumption | (simp only [List.length_append, List.length_map, List.length_cons, List.length_nil] <;> omega))) | (with_reducible refine aa (h2) ?_) | (with_reducible refine cS ?_) | fail)
    refine cw (α := Nat) (fun j => [(0, bs l), (5, .sl (acc.flatMap ee) acc.length (.tok 10123)), (6, .c (.int .i64 ((a + j : Nat) : Int))), (10123, .bt acc.length 85)])
      (fun j => j ≤ m) (fun j => m - j) 0 [0, 5, 6] ?_ (Nat.zero_le _) ?_
    · simp only [go_sem, ↓reduceIte, Nat.reduceEqDiff, Nat.reduceLT, Nat.reduceLeDiff, Nat.reduceAdd, Nat.reduceSub, Nat.reduceMul, Nat.reduceBEq, Nat.reduceBNe, Nat.reducePow, Int.reduceToNat, Int.reduceLE, Int.reduceLT, Int.reduceMul, Int.reduceEq, Int.reducePow, Int.reduceAdd, Int.reduceSub, Int.reduceNeg, reduceCtorEq] <;> rfl
    intro j hj ihj
    have hw4 : IntKind.i64.wrap (((a + j : Nat) : Int) + 1) = ((a + (j + 1) : Nat) : Int) := by rw [bO (by omega) (by omega)]; rfl
    by_cases hjm : j < m
    · obtain ⟨h3, h4⟩ := hin j hjm
      have h3' : (((a + j : Nat) : Int) < (l.length : Int)) = True := eq_true (by omega)
      clear hin hout
      generalize hgk : l.getD (a + j) 0 = ck at *
      have h4' : ((ck.toNat : Int) = 10) = False := eq_false (by omega)
      repeat' (first | (with_reducible refine hY _ ?_; clear hY Y) | ((with_reducible first | refine av rfl (aD fun K' hK' => ab ?_) | refine hK' _ (ac fun Y hY => ab ?_) | refine bR rfl (ac fun Y hY => ab ?_) | refine ac fun Y hY => ab ?_ | refine aD fun K' hK' => ab ?_ | refine ae tk0 ag (ac fun Y hY => ab ?_) | refine ab ?_ | refine ap ?_ | refine bY rfl (bI fun K' hK' => ab ?_) | refine hK' _ _ (ac fun Y hY => ab ?_) | refine cJ rfl (ac fun Y hY => ab ?_) | refine bI fun K' hK' => ab ?_ | refine bX ?_); (try clear hK' K'); (try dsimp only [aop]); try simp only [go_sem, ↓reduceIte, Nat.reduceEqDiff, Nat.reduceLT, Nat.reduceLeDiff, Nat.reduceAdd, Nat.reduceSub, Nat.reduceMul, Nat.reduceBEq, Nat.reduceBNe, Nat.reducePow, Int.reduceToNat, Int.reduceLE, Int.reduceLT, Int.reduceMul, Int.reduceEq, Int.reducePow, Int.reduceAdd, Int.reduceSub, Int.reduceNeg, reduceCtorEq, ag, Tryz.results13, h3', h4', hgk, hw4]) | (with_reducible first | refine ai ?_ | refine bj rfl ?_ | refine aS ?_ | refine cp ?_ | refine dk ?_ ?_ | refine al ?_ | refine am ?_ | refine aL fun K hK => ?_ | refine ax ?_ | refine ar ?_ | refine bN ?_ | refine bg ?_ | refine aO ?_ | refine bL ?_ | refine bo ?_ | refine aq ?_ | refine aC ?_ | refine az ?_ | refine bq ?_ | refine bx ?_ | refine b8 ?_ | refine b7 ?_ | refine bl ?_ | refine dq fun K hK => ?_) | (with_reducible refine hK _ ?_; clear hK K) | (with_reducible refine hK _ _ ?_ ?_; (· kernel_rfl); clear hK K) | ((with_reducible first | refine aR ?_ ?_ | refine ah ?_ ?_ | refine cR ?_ ?_); (· decide)) | (with_reducible refine bm tk0 ag ?_ ?_; (· kernel_rfl)) | ((with_reducible first | refine bK (fun hc => ?_) (fun hc => ?_) | refine bV (fun hc => ?_) (fun hc => ?_)) <;> (try simp only [decide_eq_true_eq, decide_eq_false_iff_not, Bool.not_true, Bool.not_false, Bool.not_eq_true', Bool.not_eq_false'] at hc) <;> (try (exfalso; omega))) | (with_reducible refine bQ ?_ ?_; (· (try and_intros) <;> first | omega | assumption | (simp only [List.length_append, List.length_map, List.length_cons, List.length_nil] <;> omega))) | (with_reducible refine cS ?_) | fail)
      refine bA [0, 5, 6] (by simp only [go_sem, ↓reduceIte, Nat.reduceEqDiff, Nat.reduceLT, Nat.reduceLeDiff, Nat.reduceAdd, Nat.reduceSub, Nat.reduceMul, Nat.reduceBEq, Nat.reduceBNe, Nat.reducePow, Int.reduceToNat, Int.reduceLE, Int.reduceLT, Int.reduceMul, Int.reduceEq, Int.reducePow, Int.reduceAdd, Int.reduceSub, Int.reduceNeg, reduceCtorEq]; exact rfl) ?_
      exact ihj (j + 1) (by omega) (by omega)
    · obtain rfl : j = m := by omega
      by_cases h3 : a + j < l.length
      · have h3' : (((a + j : Nat) : Int) < (l.length : Int)) = True := eq_true (by omega)
        have h4 := hout h3
        clear hin hout
        generalize hgk : l.getD (a + j) 0 = ck at *
        have h4' : ((ck.toNat : Int) = 10) = True := eq_true (by omega)
        repeat' (first | (with_reducible refine hY _ ?_; clear hY Y) | ((with_reducible first | refine av rfl (aD fun K' hK' => ab ?_) | refine hK' _ (ac fun Y hY => ab ?_) | refine bR rfl (ac fun Y hY => ab ?_) | refine ac fun Y hY => ab ?_ | refine aD fun K' hK' => ab ?_ | refine ae tk0 ag (ac fun Y hY => ab ?_) | refine ab ?_ | refine ap ?_ | refine bY rfl (bI fun K' hK' => ab ?_) | refine hK' _ _ (ac fun Y hY => ab ?_) | refine cJ rfl (ac fun Y hY => ab ?_) | refine bI fun K' hK' => ab ?_ | refine bX ?_); (try clear hK' K'); (try dsimp only [aop]); try simp only [go_sem, ↓reduceIte, Nat.reduceEqDiff, Nat.reduceLT, Nat.reduceLeDiff, Nat.reduceAdd, Nat.reduceSub, Nat.reduceMul, Nat.reduceBEq, Nat.reduceBNe, Nat.reducePow, Int.reduceToNat, Int.reduceLE, Int.reduceLT, Int.reduceMul, Int.reduceEq, Int.reducePow, Int.reduceAdd, Int.reduceSub, Int.reduceNeg, reduceCtorEq, ag, Tryz.results13, h3', h4', hgk]) | (with_reducible first | refine ai ?_ | refine bj rfl ?_ | refine aS ?_ | refine cp ?_ | refine dk ?_ ?_ | refine al ?_ | refine am ?_ | refine aL fun K hK => ?_ | refine ax ?_ | refine ar ?_ | refine bN ?_ | refine bg ?_ | refine aO ?_ | refine bL ?_ | refine bo ?_ | refine aq ?_ | refine aC ?_ | refine az ?_ | refine bq ?_ | refine bx ?_ | refine b8 ?_ | refine b7 ?_ | refine bl ?_ | refine dq fun K hK => ?_) | (with_reducible refine hK _ ?_; clear hK K) | (with_reducible refine hK _ _ ?_ ?_; (· kernel_rfl); clear hK K) | ((with_reducible first | refine aR ?_ ?_ | refine ah ?_ ?_ | refine cR ?_ ?_); (· decide)) | (with_reducible refine bm tk0 ag ?_ ?_; (· kernel_rfl)) | ((with_reducible first | refine bK (fun hc => ?_) (fun hc => ?_) | refine bV (fun hc => ?_) (fun hc => ?_)) <;> (try simp only [decide_eq_true_eq, decide_eq_false_iff_not, Bool.not_true, Bool.not_false, Bool.not_eq_true', Bool.not_eq_false'] at hc) <;> (try (exfalso; omega))) | (with_reducible refine bQ ?_ ?_; (· (try and_intros) <;> first | omega | assumption | (simp only [List.length_append, List.length_map, List.length_cons, List.length_nil] <;> omega))) | (with_reducible refine cS ?_) | fail)
        refine bA [0, 5, 6] (by simp only [go_sem, ↓reduceIte, Nat.reduceEqDiff, Nat.reduceLT, Nat.reduceLeDiff, Nat.reduceAdd, Nat.reduceSub, Nat.reduceMul, Nat.reduceBEq, Nat.reduceBNe, Nat.reducePow, Int.reduceToNat, Int.reduceLE, Int.reduceLT, Int.reduceMul, Int.reduceEq, Int.reducePow, Int.reduceAdd, Int.reduceSub, Int.reduceNeg, reduceCtorEq]; exact rfl) ?_
        exact ih (acc, a + j) ⟨by simp only; omega, by simp only; omega, hs⟩ (by simp only; omega)
      · have h3' : (((a + j : Nat) : Int) < (l.length : Int)) = False := eq_false (by omega)
        repeat' (first | (with_reducible refine hY _ ?_; clear hY Y) | ((with_reducible first | refine av rfl (aD fun K' hK' => ab ?_) | refine hK' _ (ac fun Y hY => ab ?_) | refine bR rfl (ac fun Y hY => ab ?_) | refine ac fun Y hY => ab ?_ | refine aD fun K' hK' => ab ?_ | refine ae tk0 ag (ac fun Y hY => ab ?_) | refine ab ?_ | refine ap ?_ | refine bY rfl (bI fun K' hK' => ab ?_) | refine hK' _ _ (ac fun Y hY => ab ?_) | refine cJ rfl (ac fun Y hY => ab ?_) | refine bI fun K' hK' => ab ?_ | refine bX ?_); (try clear hK' K'); (try dsimp only [aop]); try simp only [go_sem, ↓reduceIte, Nat.reduceEqDiff, Nat.reduceLT, Nat.reduceLeDiff, Nat.reduceAdd, Nat.reduceSub, Nat.reduceMul, Nat.reduceBEq, Nat.reduceBNe, Nat.reducePow, Int.reduceToNat, Int.reduceLE, Int.reduceLT, Int.reduceMul, Int.reduceEq, Int.reducePow, Int.reduceAdd, Int.reduceSub, Int.reduceNeg, reduceCtorEq, ag, Tryz.results13, h3']) | (with_reducible first | refine ai ?_ | refine bj rfl ?_ | refine aS ?_ | refine cp ?_ | refine dk ?_ ?_ | refine al ?_ | refine am ?_ | refine aL fun K hK => ?_ | refine ax ?_ | refine ar ?_ | refine bN ?_ | refine bg ?_ | refine aO ?_ | refine bL ?_ | refine bo ?_ | refine aq ?_ | refine aC ?_ | refine az ?_ | refine bq ?_ | refine bx ?_ | refine b8 ?_ | refine b7 ?_ | refine bl ?_ | refine dq fun K hK => ?_) | (with_reducible refine hK _ ?_; clear hK K) | (with_reducible refine hK _ _ ?_ ?_; (· kernel_rfl); clear hK K) | ((with_reducible first | refine aR ?_ ?_ | refine ah ?_ ?_ | refine cR ?_ ?_); (· decide)) | (with_reducible refine bm tk0 ag ?_ ?_; (· kernel_rfl)) | ((with_reducible first | refine bK (fun hc => ?_) (fun hc => ?_) | refine bV (fun hc => ?_) (fun hc => ?_)) <;> (try simp only [decide_eq_true_eq, decide_eq_false_iff_not, Bool.not_true, Bool.not_false, Bool.not_eq_true', Bool.not_eq_false'] at hc) <;> (try (exfalso; omega))) | (with_reducible refine bQ ?_ ?_; (· (try and_intros) <;> first | omega | assumption | (simp only [List.length_append, List.length_map, List.length_cons, List.length_nil] <;> omega))) | (with_reducible refine cS ?_) | fail)
        refine bA [0, 5, 6] (by simp only [go_sem, ↓reduceIte, Nat.reduceEqDiff, Nat.reduceLT, Nat.reduceLeDiff, Nat.reduceAdd, Nat.reduceSub, Nat.reduceMul, Nat.reduceBEq, Nat.reduceBNe, Nat.reducePow, Int.reduceToNat, Int.reduceLE, Int.reduceLT, Int.reduceMul, Int.reduceEq, Int.reducePow, Int.reduceAdd, Int.reduceSub, Int.reduceNeg, reduceCtorEq]; exact rfl) ?_
        exact ih (acc, a + j) ⟨by simp only; omega, by simp only; omega, hs⟩ (by simp only; omega)
  have hst : dC a (l.drop a) = if (dT a (l.drop a)).2 = 0 then .tok (dT a (l.drop a)).1 else .err (dT a (l.drop a)).2 := by unfold dC; rw [if_neg hb0, if_neg c2]
  rw [hsl] at c2
  clear hb0 hsl
  by_cases cl : dI c = true
  · have c47 : ((c.toNat : Int) = 47) = False := eq_false (by unfold dI at cl; simp at cl; omega)
    have hlp := hl0.2 cl
    rw [if_pos hlp] at hwl
    have hnp : 0 < bP wordL (l.drop a) := by
      exact among_pos.2 ⟨c, _, hdr, by rw [mS, cl]; rfl⟩
    rw [← hwl] at hnp hwle
    have n0 : ((0 : Int) < (n : Int)) = True := eq_true (by omega)
    by_cases c3 : 32 < n
    · have n32 : ((32 : Int) < (n : Int)) = True := eq_true (by omega)
      have ht : dT a (l.drop a) = (jp, 2) := by unfold dT; rw [if_pos hlp, ← hwl, if_pos c3]
      rw [ht] at hst
      rw [jH h0 hst] at hs
      subst hs
      clear hst ht hdr hl0 hd0
      repeat' (first | (with_reducible refine hY _ ?_; clear hY Y) | ((with_reducible first | refine av rfl (aD fun K' hK' => ab ?_) | refine hK' _ (ac fun Y hY => ab ?_) | refine bR rfl (ac fun Y hY => ab ?_) | refine ac fun Y hY => ab ?_ | refine aD fun K' hK' => ab ?_ | refine ae tk0 ag (ac fun Y hY => ab ?_) | refine ab ?_ | refine ap ?_ | refine bY rfl (bI fun K' hK' => ab ?_) | refine hK' _ _ (ac fun Y hY => ab ?_) | refine cJ rfl (ac fun Y hY => ab ?_) | refine bI fun K' hK' => ab ?_ | refine bX ?_); (try clear hK' K'); (try dsimp only [aop]); try simp only [go_sem, ↓reduceIte, Nat.reduceEqDiff, Nat.reduceLT, Nat.reduceLeDiff, Nat.reduceAdd, Nat.reduceSub, Nat.reduceMul, Nat.reduceBEq, Nat.reduceBNe, Nat.reducePow, Int.reduceToNat, Int.reduceLE, Int.reduceLT, Int.reduceMul, Int.reduceEq, Int.reducePow, Int.reduceAdd, Int.reduceSub, Int.reduceNeg, reduceCtorEq, ag, Tryz.results13, hw1, c32, c9, c10, c47, n32]) | (with_reducible first | refine ai ?_ | refine bj rfl ?_ | refine aS ?_ | refine cp ?_ | refine dk ?_ ?_ | refine al ?_ | refine am ?_ | refine aL fun K hK => ?_ | refine ax ?_ | refine ar ?_ | refine bN ?_ | refine bg ?_ | refine aO ?_ | refine bL ?_ | refine bo ?_ | refine aq ?_ | refine aC ?_ | refine az ?_ | refine bq ?_ | refine bx ?_ | refine b8 ?_ | refine b7 ?_ | refine bl ?_ | refine dq fun K hK => ?_) | (with_reducible refine hK _ ?_; clear hK K) | (with_reducible refine hK _ _ ?_ ?_; (· kernel_rfl); clear hK K) | ((with_reducible first | refine aR ?_ ?_ | refine ah ?_ ?_ | refine cR ?_ ?_); (· decide)) | (with_reducible refine bm tk0 ag ?_ ?_; (· kernel_rfl)) | ((with_reducible first | refine bK (fun hc => ?_) (fun hc => ?_) | refine bV (fun hc => ?_) (fun hc => ?_)) <;> (try simp only [decide_eq_true_eq, decide_eq_false_iff_not, Bool.not_true, Bool.not_false, Bool.not_eq_true', Bool.not_eq_false'] at hc) <;> (try (exfalso; omega))) | (with_reducible refine bQ ?_ ?_; (· (try and_intros) <;> first | omega | assumption | (simp only [List.length_append, List.length_map, List.length_cons, List.length_nil] <;> omega))) | (with_reducible refine aa (h2) ?_) | (with_reducible refine cS ?_) | fail)
      rfl
    · have n32 : ((32 : Int) < (n : Int)) = False := eq_false (by omega)
      have ht : dT a (l.drop a) = (⟨if keyL.contains ((l.drop a).take n) then 2 else 1, a, (l.drop a).take n⟩, 0) := by unfold dT; rw [if_pos hlp, ← hwl, if_neg c3]
      rw [ht] at hst
      rw [ij h0 hst] at hs
      have hlen : ((l.drop a).take n).length = n := by rw [List.length_take, List.length_drop]; omega
      simp only [hlen, List.drop_drop] at hs
      have h3 := yY ((l.drop a).take n)
      have hwn : IntKind.i64.wrap ((a : Int) + (n : Int)) = ((a + n : Nat) : Int) := by rw [bO (by omega) (by omega)]; omega
      clear hst ht hdr hl0 hd0
      by_cases ck : keyL.contains ((l.drop a).take n) = true
      · rw [ck] at h3 hs
        repeat' (first | (with_reducible refine hY _ ?_; clear hY Y) | ((with_reducible first | refine av rfl (aD fun K' hK' => ab ?_) | refine hK' _ (ac fun Y hY => ab ?_) | refine bR rfl (ac fun Y hY => ab ?_) | refine ac fun Y hY => ab ?_ | refine aD fun K' hK' => ab ?_ | refine ae tk0 ag (ac fun Y hY => ab ?_) | refine ab ?_ | refine ap ?_ | refine bY rfl (bI fun K' hK' => ab ?_) | refine hK' _ _ (ac fun Y hY => ab ?_) | refine cJ rfl (ac fun Y hY => ab ?_) | refine bI fun K' hK' => ab ?_ | refine bX ?_); (try clear hK' K'); (try dsimp only [aop]); try simp only [go_sem, ↓reduceIte, Nat.reduceEqDiff, Nat.reduceLT, Nat.reduceLeDiff, Nat.reduceAdd, Nat.reduceSub, Nat.reduceMul, Nat.reduceBEq, Nat.reduceBNe, Nat.reducePow, Int.reduceToNat, Int.reduceLE, Int.reduceLT, Int.reduceMul, Int.reduceEq, Int.reducePow, Int.reduceAdd, Int.reduceSub, Int.reduceNeg, reduceCtorEq, ag, Tryz.results13, hw1, c32, c9, c10, c47, n32, n0, hwn, dQ, hacl]) | (with_reducible first | refine ai ?_ | refine bj rfl ?_ | refine aS ?_ | refine cp ?_ | refine dk ?_ ?_ | refine al ?_ | refine am ?_ | refine aL fun K hK => ?_ | refine ax ?_ | refine ar ?_ | refine bN ?_ | refine bg ?_ | refine aO ?_ | refine bL ?_ | refine bo ?_ | refine aq ?_ | refine aC ?_ | refine az ?_ | refine bq ?_ | refine bx ?_ | refine b8 ?_ | refine b7 ?_ | refine bl ?_ | refine dq fun K hK => ?_) | (with_reducible refine hK _ ?_; clear hK K) | (with_reducible refine hK _ _ ?_ ?_; (· kernel_rfl); clear hK K) | ((with_reducible first | refine aR ?_ ?_ | refine ah ?_ ?_ | refine cR ?_ ?_); (· decide)) | (with_reducible refine bm tk0 ag ?_ ?_; (· kernel_rfl)) | ((with_reducible first | refine bK (fun hc => ?_) (fun hc => ?_) | refine bV (fun hc => ?_) (fun hc => ?_)) <;> (try simp only [decide_eq_true_eq, decide_eq_false_iff_not, Bool.not_true, Bool.not_false, Bool.not_eq_true', Bool.not_eq_false'] at hc) <;> (try (exfalso; omega))) | (with_reducible refine bQ ?_ ?_; (· (try and_intros) <;> first | omega | assumption | (simp only [List.length_append, List.length_map, List.length_cons, List.length_nil] <;> omega))) | (with_reducible refine aa (h2) ?_) | (with_reducible refine aa (h3) ?_) | (with_reducible refine cS ?_) | fail)
        refine bA [0, 5, 6] (by simp only [go_sem, ↓reduceIte, Nat.reduceEqDiff, Nat.reduceLT, Nat.reduceLeDiff, Nat.reduceAdd, Nat.reduceSub, Nat.reduceMul, Nat.reduceBEq, Nat.reduceBNe, Nat.reducePow, Int.reduceToNat, Int.reduceLE, Int.reduceLT, Int.reduceMul, Int.reduceEq, Int.reducePow, Int.reduceAdd, Int.reduceSub, Int.reduceNeg, reduceCtorEq]; exact rfl) ?_
        refine dw (ih (acc ++ [⟨2, a, (l.drop a).take n⟩], a + n) ⟨by simp only; omega, (by simp only [List.length_append, List.length_cons, List.length_nil]; omega), hs⟩ (by simp only; omega)) ?_
        simp
      · rw [Bool.eq_false_iff.2 ck] at h3 hs
        repeat' (first | (with_reducible refine hY _ ?_; clear hY Y) | ((with_reducible first | refine av rfl (aD fun K' hK' => ab ?_) | refine hK' _ (ac fun Y hY => ab ?_) | refine bR rfl (ac fun Y hY => ab ?_) | refine ac fun Y hY => ab ?_ | refine aD fun K' hK' => ab ?_ | refine ae tk0 ag (ac fun Y hY => ab ?_) | refine ab ?_ | refine ap ?_ | refine bY rfl (bI fun K' hK' => ab ?_) | refine hK' _ _ (ac fun Y hY => ab ?_) | refine cJ rfl (ac fun Y hY => ab ?_) | refine bI fun K' hK' => ab ?_ | refine bX ?_); (try clear hK' K'); (try dsimp only [aop]); try simp only [go_sem, ↓reduceIte, Nat.reduceEqDiff, Nat.reduceLT, Nat.reduceLeDiff, Nat.reduceAdd, Nat.reduceSub, Nat.reduceMul, Nat.reduceBEq, Nat.reduceBNe, Nat.reducePow, Int.reduceToNat, Int.reduceLE, Int.reduceLT, Int.reduceMul, Int.reduceEq, Int.reducePow, Int.reduceAdd, Int.reduceSub, Int.reduceNeg, reduceCtorEq, ag, Tryz.results13, hw1, c32, c9, c10, c47, n32, n0, hwn, dQ, hacl]) | (with_reducible first | refine ai ?_ | refine bj rfl ?_ | refine aS ?_ | refine cp ?_ | refine dk ?_ ?_ | refine al ?_ | refine am ?_ | refine aL fun K hK => ?_ | refine ax ?_ | refine ar ?_ | refine bN ?_ | refine bg ?_ | refine aO ?_ | refine bL ?_ | refine bo ?_ | refine aq ?_ | refine aC ?_ | refine az ?_ | refine bq ?_ | refine bx ?_ | refine b8 ?_ | refine b7 ?_ | refine bl ?_ | refine dq fun K hK => ?_) | (with_reducible refine hK _ ?_; clear hK K) | (with_reducible refine hK _ _ ?_ ?_; (· kernel_rfl); clear hK K) | ((with_reducible first | refine aR ?_ ?_ | refine ah ?_ ?_ | refine cR ?_ ?_); (· decide)) | (with_reducible refine bm tk0 ag ?_ ?_; (· kernel_rfl)) | ((with_reducible first | refine bK (fun hc => ?_) (fun hc => ?_) | refine bV (fun hc => ?_) (fun hc => ?_)) <;> (try simp only [decide_eq_true_eq, decide_eq_false_iff_not, Bool.not_true, Bool.not_false, Bool.not_eq_true', Bool.not_eq_false'] at hc) <;> (try (exfalso; omega))) | (with_reducible refine bQ ?_ ?_; (· (try and_intros) <;> first | omega | assumption | (simp only [List.length_append, List.length_map, List.length_cons, List.length_nil] <;> omega))) | (with_reducible refine aa (h2) ?_) | (with_reducible refine aa (h3) ?_) | (with_reducible refine cS ?_) | fail)
        refine bA [0, 5, 6] (by simp only [go_sem, ↓reduceIte, Nat.reduceEqDiff, Nat.reduceLT, Nat.reduceLeDiff, Nat.reduceAdd, Nat.reduceSub, Nat.reduceMul, Nat.reduceBEq, Nat.reduceBNe, Nat.reducePow, Int.reduceToNat, Int.reduceLE, Int.reduceLT, Int.reduceMul, Int.reduceEq, Int.reducePow, Int.reduceAdd, Int.reduceSub, Int.reduceNeg, reduceCtorEq]; exact rfl) ?_
        refine dw (ih (acc ++ [⟨1, a, (l.drop a).take n⟩], a + n) ⟨by simp only; omega, (by simp only [List.length_append, List.length_cons, List.length_nil]; omega), hs⟩ (by simp only; omega)) ?_
        simp
  have hlp : ¬ 0 < bP lettersL (l.drop a) := fun h => cl (hl0.1 h)
  rw [if_neg hlp] at hwl
  clear hl0
  have n0 : ((0 : Int) < (n : Int)) = False := eq_false (by omega)
  have n32 : ((32 : Int) < (n : Int)) = False := eq_false (by omega)
  by_cases cd : dF c = true
  · have c47 : ((c.toNat : Int) = 47) = False := eq_false (by unfold dF at cd; simp at cd; omega)
    have hDp := hd0.2 cd
    have d0 : ((0 : Int) < (D : Int)) = True := eq_true (by omega)
    have hlen : ((l.drop a).take D).length = D := by rw [List.length_take, List.length_drop]; omega
    have hhd : ((l.drop a).take D).getD 0 0 = c := by
      rw [hdr]
      cases D with
      | zero => omega
      | succ D => rfl
    have ht : dT a (l.drop a) = if !o9 ((l.drop a).take D) || decide (0 < bP lettersL ((l.drop a).drop D)) then (jp, 5) else (⟨3, a, (l.drop a).take D⟩, 0) := by
      unfold dT; rw [if_neg hlp, hD, if_pos hDp]
    have hwn : IntKind.i64.wrap ((a : Int) + (D : Int)) = ((a + D : Nat) : Int) := by rw [bO (by omega) (by omega)]; omega
    have hlet : 0 < bP lettersL ((l.drop a).drop D) ↔ a + D < l.length ∧ dI (l.getD (a + D) 0) = true := by
      rw [List.drop_drop, among_pos]
      constructor
      · rintro ⟨c', t, e, h⟩
        have h3 : a + D < l.length := by
          have : (l.drop (a + D)).length = t.length + 1 := by rw [e]; rfl
          rw [List.length_drop] at this; omega
        rw [List.drop_eq_getElem_cons h3] at e
        cases e
        rw [gp h3]
        rw [gR] at h
        exact ⟨h3, h⟩
      · rintro ⟨h3, h⟩
        rw [gp h3] at h
        exact ⟨_, _, List.drop_eq_getElem_cons h3, by rw [gR]; exact h⟩
    generalize hgk : l.getD (a + D) 0 = ck at *
    have h5 := qE ck
    have hnum : (!o9 ((l.drop a).take D) || decide (0 < bP lettersL ((l.drop a).drop D))) = true ↔ (c.toNat = 48 ∧ 1 < D) ∨ 10 < D ∨ (D = 10 ∧ leL ((l.drop a).take D) jc = false) ∨ (a + D < l.length ∧ dI ck = true) := by
      rw [Bool.or_eq_true, decide_eq_true_eq, hlet]
      unfold o9
      rw [hlen, hhd]
      generalize leL ((l.drop a).take D) jc = b
      generalize dI ck = b'
      cases b <;> cases b' <;> simp <;> omega
    rw [ht] at hst
    have hgl : leL ((l.drop a).take D) jc = (Op.bytesLess ((l.drop a).take D) [49, 48, 55, 51, 55, 52, 49, 56, 50, 52] || (l.drop a).take D == [49, 48, 55, 51, 55, 52, 49, 56, 50, 52]) := rfl
    by_cases cn : (!o9 ((l.drop a).take D) || decide (0 < bP lettersL ((l.drop a).drop D))) = true
    · rw [if_pos cn] at hst
      rw [jH h0 hst] at hs
      rw [hnum] at cn
      subst hs
      clear hst ht hdr hd0 hnum hlet hlen hhd
      by_cases p1 : c.toNat = 48 ∧ 1 < D
      · have q1 : ((c.toNat : Int) = 48) = True := eq_true (by omega)
        have q2 : ((1 : Int) < (D : Int)) = True := eq_true (by omega)
        repeat' (first | (with_reducible refine hY _ ?_; clear hY Y) | ((with_reducible first | refine av rfl (aD fun K' hK' => ab ?_) | refine hK' _ (ac fun Y hY => ab ?_) | refine bR rfl (ac fun Y hY => ab ?_) | refine ac fun Y hY => ab ?_ | refine aD fun K' hK' => ab ?_ | refine ae tk0 ag (ac fun Y hY => ab ?_) | refine ab ?_ | refine ap ?_ | refine bY rfl (bI fun K' hK' => ab ?_) | refine hK' _ _ (ac fun Y hY => ab ?_) | refine cJ rfl (ac fun Y hY => ab ?_) | refine bI fun K' hK' => ab ?_ | refine bX ?_); (try clear hK' K'); (try dsimp only [aop]); try simp only [go_sem, ↓reduceIte, Nat.reduceEqDiff, Nat.reduceLT, Nat.reduceLeDiff, Nat.reduceAdd, Nat.reduceSub, Nat.reduceMul, Nat.reduceBEq, Nat.reduceBNe, Nat.reducePow, Int.reduceToNat, Int.reduceLE, Int.reduceLT, Int.reduceMul, Int.reduceEq, Int.reducePow, Int.reduceAdd, Int.reduceSub, Int.reduceNeg, reduceCtorEq, ag, Tryz.results13, hw1, c32, c9, c10, c47, n32, n0, d0, q1, q2]) | (with_reducible first | refine ai ?_ | refine bj rfl ?_ | refine aS ?_ | refine cp ?_ | refine dk ?_ ?_ | refine al ?_ | refine am ?_ | refine aL fun K hK => ?_ | refine ax ?_ | refine ar ?_ | refine bN ?_ | refine bg ?_ | refine aO ?_ | refine bL ?_ | refine bo ?_ | refine aq ?_ | refine aC ?_ | refine az ?_ | refine bq ?_ | refine bx ?_ | refine b8 ?_ | refine b7 ?_ | refine bl ?_ | refine dq fun K hK => ?_) | (with_reducible refine hK _ ?_; clear hK K) | (with_reducible refine hK _ _ ?_ ?_; (· kernel_rfl); clear hK K) | ((with_reducible first | refine aR ?_ ?_ | refine ah ?_ ?_ | refine cR ?_ ?_); (· decide)) | (with_reducible refine bm tk0 ag ?_ ?_; (· kernel_rfl)) | ((with_reducible first | refine bK (fun hc => ?_) (fun hc => ?_) | refine bV (fun hc => ?_) (fun hc => ?_)) <;> (try simp only [decide_eq_true_eq, decide_eq_false_iff_not, Bool.not_true, Bool.not_false, Bool.not_eq_true', Bool.not_eq_false'] at hc) <;> (try (exfalso; omega))) | (with_reducible refine bQ ?_ ?_; (· (try and_intros) <;> first | omega | assumption | (simp only [List.length_append, List.length_map, List.length_cons, List.length_nil] <;> omega))) | (with_reducible refine aa (h2) ?_) | (with_reducible refine cS ?_) | fail)
        rfl
      by_cases p2 : 10 < D
      · have q2 : ((10 : Int) < (D : Int)) = True := eq_true (by omega)
        repeat' (first | (with_reducible refine hY _ ?_; clear hY Y) | ((with_reducible first | refine av rfl (aD fun K' hK' => ab ?_) | refine hK' _ (ac fun Y hY => ab ?_) | refine bR rfl (ac fun Y hY => ab ?_) | refine ac fun Y hY => ab ?_ | refine aD fun K' hK' => ab ?_ | refine ae tk0 ag (ac fun Y hY => ab ?_) | refine ab ?_ | refine ap ?_ | refine bY rfl (bI fun K' hK' => ab ?_) | refine hK' _ _ (ac fun Y hY => ab ?_) | refine cJ rfl (ac fun Y hY => ab ?_) | refine bI fun K' hK' => ab ?_ | refine bX ?_); (try clear hK' K'); (try dsimp only [aop]); try simp only [go_sem, ↓reduceIte, Nat.reduceEqDiff, Nat.reduceLT, Nat.reduceLeDiff, Nat.reduceAdd, Nat.reduceSub, Nat.reduceMul, Nat.reduceBEq, Nat.reduceBNe, Nat.reducePow, Int.reduceToNat, Int.reduceLE, Int.reduceLT, Int.reduceMul, Int.reduceEq, Int.reducePow, Int.reduceAdd, Int.reduceSub, Int.reduceNeg, reduceCtorEq, ag, Tryz.results13, hw1, c32, c9, c10, c47, n32, n0, d0, q2]) | (with_reducible first | refine ai ?_ | refine bj rfl ?_ | refine aS ?_ | refine cp ?_ | refine dk ?_ ?_ | refine al ?_ | refine am ?_ | refine aL fun K hK => ?_ | refine ax ?_ | refine ar ?_ | refine bN ?_ | refine bg ?_ | refine aO ?_ | refine bL ?_ | refine bo ?_ | refine aq ?_ | refine aC ?_ | refine az ?_ | refine bq ?_ | refine bx ?_ | refine b8 ?_ | refine b7 ?_ | refine bl ?_ | refine dq fun K hK => ?_) | (with_reducible refine hK _ ?_; clear hK K) | (with_reducible refine hK _ _ ?_ ?_; (· kernel_rfl); clear hK K) | ((with_reducible first | refine aR ?_ ?_ | refine ah ?_ ?_ | refine cR ?_ ?_); (· decide)) | (with_reducible refine bm tk0 ag ?_ ?_; (· kernel_rfl)) | ((with_reducible first | refine bK (fun hc => ?_) (fun hc => ?_) | refine bV (fun hc => ?_) (fun hc => ?_)) <;> (try simp only [decide_eq_true_eq, decide_eq_false_iff_not, Bool.not_true, Bool.not_false, Bool.not_eq_true', Bool.not_eq_false'] at hc) <;> (try (exfalso; omega))) | (with_reducible refine bQ ?_ ?_; (· (try and_intros) <;> first | omega | assumption | (simp only [List.length_append, List.length_map, List.length_cons, List.length_nil] <;> omega))) | (with_reducible refine aa (h2) ?_) | (with_reducible refine cS ?_) | fail)
        all_goals rfl
      have q2 : ((10 : Int) < (D : Int)) = False := eq_false (by omega)
      by_cases p3 : D = 10
      · have q3 : ((D : Int) = 10) = True := eq_true (by omega)
        by_cases p4 : leL ((l.drop a).take D) jc = true
        · have p4' := p4
          rw [hgl] at p4'
          have p5 : a + D < l.length ∧ dI ck = true := by
            rcases cn with h | h | h | h
            · exact absurd h p1
            · exact absurd h p2
            · rw [p4] at h; cases h.2
            · exact h
          have q5 : (((a + D : Nat) : Int) < (l.length : Int)) = True := eq_true (by omega)
          rw [p5.2] at h5
          clear cn hgl
          repeat' (first | (with_reducible refine hY _ ?_; clear hY Y) | ((with_reducible first | refine av rfl (aD fun K' hK' => ab ?_) | refine hK' _ (ac fun Y hY => ab ?_) | refine bR rfl (ac fun Y hY => ab ?_) | refine ac fun Y hY => ab ?_ | refine aD fun K' hK' => ab ?_ | refine ae tk0 ag (ac fun Y hY => ab ?_) | refine ab ?_ | refine ap ?_ | refine bY rfl (bI fun K' hK' => ab ?_) | refine hK' _ _ (ac fun Y hY => ab ?_) | refine cJ rfl (ac fun Y hY => ab ?_) | refine bI fun K' hK' => ab ?_ | refine bX ?_); (try clear hK' K'); (try dsimp only [aop]); try simp only [go_sem, ↓reduceIte, Nat.reduceEqDiff, Nat.reduceLT, Nat.reduceLeDiff, Nat.reduceAdd, Nat.reduceSub, Nat.reduceMul, Nat.reduceBEq, Nat.reduceBNe, Nat.reducePow, Int.reduceToNat, Int.reduceLE, Int.reduceLT, Int.reduceMul, Int.reduceEq, Int.reducePow, Int.reduceAdd, Int.reduceSub, Int.reduceNeg, reduceCtorEq, ag, Tryz.results13, hw1, c32, c9, c10, c47, n32, n0, d0, q2, q3, q5, hwn, hgk, p4', dQ]) | (with_reducible first | refine ai ?_ | refine bj rfl ?_ | refine aS ?_ | refine cp ?_ | refine dk ?_ ?_ | refine al ?_ | refine am ?_ | refine aL fun K hK => ?_ | refine ax ?_ | refine ar ?_ | refine bN ?_ | refine bg ?_ | refine aO ?_ | refine bL ?_ | refine bo ?_ | refine aq ?_ | refine aC ?_ | refine az ?_ | refine bq ?_ | refine bx ?_ | refine b8 ?_ | refine b7 ?_ | refine bl ?_ | refine dq fun K hK => ?_) | (with_reducible refine hK _ ?_; clear hK K) | (with_reducible refine hK _ _ ?_ ?_; (· kernel_rfl); clear hK K) | ((with_reducible first | refine aR ?_ ?_ | refine ah ?_ ?_ | refine cR ?_ ?_); (· decide)) | (with_reducible refine bm tk0 ag ?_ ?_; (· kernel_rfl)) | ((with_reducible first | refine bK (fun hc => ?_) (fun hc => ?_) | refine bV (fun hc => ?_) (fun hc => ?_)) <;> (try simp only [decide_eq_true_eq, decide_eq_false_iff_not, Bool.not_true, Bool.not_false, Bool.not_eq_true', Bool.not_eq_false'] at hc) <;> (try (exfalso; omega))) | (with_reducible refine bQ ?_ ?_; (· (try and_intros) <;> first | omega | assumption | (simp only [List.length_append, List.length_map, List.length_cons, List.length_nil] <;> omega))) | (with_reducible refine aa (h2) ?_) | (with_reducible refine aa (h5) ?_) | (with_reducible refine be (aU _) ?_) | (with_reducible refine cS ?_) | fail)
          all_goals rfl
        · have p4' := Bool.eq_false_iff.2 p4
          rw [hgl] at p4'
          clear cn hgl
          repeat' (first | (with_reducible refine hY _ ?_; clear hY Y) | ((with_reducible first | refine av rfl (aD fun K' hK' => ab ?_) | refine hK' _ (ac fun Y hY => ab ?_) | refine bR rfl (ac fun Y hY => ab ?_) | refine ac fun Y hY => ab ?_ | refine aD fun K' hK' => ab ?_ | refine ae tk0 ag (ac fun Y hY => ab ?_) | refine ab ?_ | refine ap ?_ | refine bY rfl (bI fun K' hK' => ab ?_) | refine hK' _ _ (ac fun Y hY => ab ?_) | refine cJ rfl (ac fun Y hY => ab ?_) | refine bI fun K' hK' => ab ?_ | refine bX ?_); (try clear hK' K'); (try dsimp only [aop]); try simp only [go_sem, ↓reduceIte, Nat.reduceEqDiff, Nat.reduceLT, Nat.reduceLeDiff, Nat.reduceAdd, Nat.reduceSub, Nat.reduceMul, Nat.reduceBEq, Nat.reduceBNe, Nat.reducePow, Int.reduceToNat, Int.reduceLE, Int.reduceLT, Int.reduceMul, Int.reduceEq, Int.reducePow, Int.reduceAdd, Int.reduceSub, Int.reduceNeg, reduceCtorEq, ag, Tryz.results13, hw1, c32, c9, c10, c47, n32, n0, d0, q2, q3, hwn, hgk, p4', dQ]) | (with_reducible first | refine ai ?_ | refine bj rfl ?_ | refine aS ?_ | refine cp ?_ | refine dk ?_ ?_ | refine al ?_ | refine am ?_ | refine aL fun K hK => ?_ | refine ax ?_ | refine ar ?_ | refine bN ?_ | refine bg ?_ | refine aO ?_ | refine bL ?_ | refine bo ?_ | refine aq ?_ | refine aC ?_ | refine az ?_ | refine bq ?_ | refine bx ?_ | refine b8 ?_ | refine b7 ?_ | refine bl ?_ | refine dq fun K hK => ?_) | (with_reducible refine hK _ ?_; clear hK K) | (with_reducible refine hK _ _ ?_ ?_; (· kernel_rfl); clear hK K) | ((with_reducible first | refine aR ?_ ?_ | refine ah ?_ ?_ | refine cR ?_ ?_); (· decide)) | (with_reducible refine bm tk0 ag ?_ ?_; (· kernel_rfl)) | ((with_reducible first | refine bK (fun hc => ?_) (fun hc => ?_) | refine bV (fun hc => ?_) (fun hc => ?_)) <;> (try simp only [decide_eq_true_eq, decide_eq_false_iff_not, Bool.not_true, Bool.not_false, Bool.not_eq_true', Bool.not_eq_false'] at hc) <;> (try (exfalso; omega))) | (with_reducible refine bQ ?_ ?_; (· (try and_intros) <;> first | omega | assumption | (simp only [List.length_append, List.length_map, List.length_cons, List.length_nil] <;> omega))) | (with_reducible refine aa (h2) ?_) | (with_reducible refine be (aU _) ?_) | (with_reducible refine cS ?_) | fail)
          all_goals rfl
      · have q3 : ((D : Int) = 10) = False := eq_false (by omega)
        have p5 : a + D < l.length ∧ dI ck = true := by
          rcases cn with h | h | h | h
          · exact absurd h p1
          · exact absurd h p2
          · exact absurd h.1 p3
          · exact h
        have q5 : (((a + D : Nat) : Int) < (l.length : Int)) = True := eq_true (by omega)
        rw [p5.2] at h5
        clear cn hgl
        repeat' (first | (with_reducible refine hY _ ?_; clear hY Y) | ((with_reducible first | refine av rfl (aD fun K' hK' => ab ?_) | refine hK' _ (ac fun Y hY => ab ?_) | refine bR rfl (ac fun Y hY => ab ?_) | refine ac fun Y hY => ab ?_ | refine aD fun K' hK' => ab ?_ | refine ae tk0 ag (ac fun Y hY => ab ?_) | refine ab ?_ | refine ap ?_ | refine bY rfl (bI fun K' hK' => ab ?_) | refine hK' _ _ (ac fun Y hY => ab ?_) | refine cJ rfl (ac fun Y hY => ab ?_) | refine bI fun K' hK' => ab ?_ | refine bX ?_); (try clear hK' K'); (try dsimp only [aop]); try simp only [go_sem, ↓reduceIte, Nat.reduceEqDiff, Nat.reduceLT, Nat.reduceLeDiff, Nat.reduceAdd, Nat.reduceSub, Nat.reduceMul, Nat.reduceBEq, Nat.reduceBNe, Nat.reducePow, Int.reduceToNat, Int.reduceLE, Int.reduceLT, Int.reduceMul, Int.reduceEq, Int.reducePow, Int.reduceAdd, Int.reduceSub, Int.reduceNeg, reduceCtorEq, ag, Tryz.results13, hw1, c32, c9, c10, c47, n32, n0, d0, q2, q3, q5, hwn, hgk, dQ]) | (with_reducible first | refine ai ?_ | refine bj rfl ?_ | refine aS ?_ | refine cp ?_ | refine dk ?_ ?_ | refine al ?_ | refine am ?_ | refine aL fun K hK => ?_ | refine ax ?_ | refine ar ?_ | refine bN ?_ | refine bg ?_ | refine aO ?_ | refine bL ?_ | refine bo ?_ | refine aq ?_ | refine aC ?_ | refine az ?_ | refine bq ?_ | refine bx ?_ | refine b8 ?_ | refine b7 ?_ | refine bl ?_ | refine dq fun K hK => ?_) | (with_reducible refine hK _ ?_; clear hK K) | (with_reducible refine hK _ _ ?_ ?_; (· kernel_rfl); clear hK K) | ((with_reducible first | refine aR ?_ ?_ | refine ah ?_ ?_ | refine cR ?_ ?_); (· decide)) | (with_reducible refine bm tk0 ag ?_ ?_; (· kernel_rfl)) | ((with_reducible first | refine bK (fun hc => ?_) (fun hc => ?_) | refine bV (fun hc => ?_) (fun hc => ?_)) <;> (try simp only [decide_eq_true_eq, decide_eq_false_iff_not, Bool.not_true, Bool.not_false, Bool.not_eq_true', Bool.not_eq_false'] at hc) <;> (try (exfalso; omega))) | (with_reducible refine bQ ?_ ?_; (· (try and_intros) <;> first | omega | assumption | (simp only [List.length_append, List.length_map, List.length_cons, List.length_nil] <;> omega))) | (with_reducible refine aa (h2) ?_) | (with_reducible refine aa (h5) ?_) | (with_reducible refine be (aU _) ?_) | (with_reducible refine cS ?_) | fail)
        all_goals rfl
    · rw [if_neg cn] at hst
      rw [ij h0 hst] at hs
      simp only [hlen, List.drop_drop] at hs
      rw [hnum] at cn
      clear hst ht hdr hd0 hnum hlet
      have p1 : ¬ (c.toNat = 48 ∧ 1 < D) := fun h => cn (.inl h)
      have p2 : ¬ 10 < D := fun h => cn (.inr (.inl h))
      have p4 : D = 10 → leL ((l.drop a).take D) jc = true := fun h => by
        cases hb : leL ((l.drop a).take D) jc
        · exact absurd (.inr (.inr (.inl ⟨h, hb⟩))) cn
        · rfl
      have p5 : a + D < l.length → dI ck = false := fun h => by
        cases hb : dI ck
        · rfl
        · exact absurd (.inr (.inr (.inr ⟨h, hb⟩))) cn
      clear cn
      have q2 : ((10 : Int) < (D : Int)) = False := eq_false (by omega)
      rw [hgl] at p4
      by_cases p3 : D = 10
      · have q3 : ((D : Int) = 10) = True := eq_true (by omega)
        have p4' := p4 p3
        by_cases p6 : a + D < l.length
        · have q5 : (((a + D : Nat) : Int) < (l.length : Int)) = True := eq_true (by omega)
          rw [p5 p6] at h5
          repeat' (first | (with_reducible refine hY _ ?_; clear hY Y) | ((with_reducible first | refine av rfl (aD fun K' hK' => ab ?_) | refine hK' _ (ac fun Y hY => ab ?_) | refine bR rfl (ac fun Y hY => ab ?_) | refine ac fun Y hY => ab ?_ | refine aD fun K' hK' => ab ?_ | refine ae tk0 ag (ac fun Y hY => ab ?_) | refine ab ?_ | refine ap ?_ | refine bY rfl (bI fun K' hK' => ab ?_) | refine hK' _ _ (ac fun Y hY => ab ?_) | refine cJ rfl (ac fun Y hY => ab ?_) | refine bI fun K' hK' => ab ?_ | refine bX ?_); (try clear hK' K'); (try dsimp only [aop]); try simp only [go_sem, ↓reduceIte, Nat.reduceEqDiff, Nat.reduceLT, Nat.reduceLeDiff, Nat.reduceAdd, Nat.reduceSub, Nat.reduceMul, Nat.reduceBEq, Nat.reduceBNe, Nat.reducePow, Int.reduceToNat, Int.reduceLE, Int.reduceLT, Int.reduceMul, Int.reduceEq, Int.reducePow, Int.reduceAdd, Int.reduceSub, Int.reduceNeg, reduceCtorEq, ag, Tryz.results13, hw1, c32, c9, c10, c47, n32, n0, d0, q2, q3, q5, hwn, hgk, p4', dQ, hacl]) | (with_reducible first | refine ai ?_ | refine bj rfl ?_ | refine aS ?_ | refine cp ?_ | refine dk ?_ ?_ | refine al ?_ | refine am ?_ | refine aL fun K hK => ?_ | refine ax ?_ | refine ar ?_ | refine bN ?_ | refine bg ?_ | refine aO ?_ | refine bL ?_ | refine bo ?_ | refine aq ?_ | refine aC ?_ | refine az ?_ | refine bq ?_ | refine bx ?_ | refine b8 ?_ | refine b7 ?_ | refine bl ?_ | refine dq fun K hK => ?_) | (with_reducible refine hK _ ?_; clear hK K) | (with_reducible refine hK _ _ ?_ ?_; (· kernel_rfl); clear hK K) | ((with_reducible first | refine aR ?_ ?_ | refine ah ?_ ?_ | refine cR ?_ ?_); (· decide)) | (with_reducible refine bm tk0 ag ?_ ?_; (· kernel_rfl)) | ((with_reducible first | refine bK (fun hc => ?_) (fun hc => ?_) | refine bV (fun hc => ?_) (fun hc => ?_)) <;> (try simp only [decide_eq_true_eq, decide_eq_false_iff_not, Bool.not_true, Bool.not_false, Bool.not_eq_true', Bool.not_eq_false'] at hc) <;> (try (exfalso; omega))) | (with_reducible refine bQ ?_ ?_; (· (try and_intros) <;> first | omega | assumption | (simp only [List.length_append, List.length_map, List.length_cons, List.length_nil] <;> omega))) | (with_reducible refine aa (h2) ?_) | (with_reducible refine aa (h5) ?_) | (with_reducible refine be (aU _) ?_) | (with_reducible refine cS ?_) | fail)
          all_goals (refine bA [0, 5, 6] (by simp only [go_sem, ↓reduceIte, Nat.reduceEqDiff, Nat.reduceLT, Nat.reduceLeDiff, Nat.reduceAdd, Nat.reduceSub, Nat.reduceMul, Nat.reduceBEq, Nat.reduceBNe, Nat.reducePow, Int.reduceToNat, Int.reduceLE, Int.reduceLT, Int.reduceMul, Int.reduceEq, Int.reducePow, Int.reduceAdd, Int.reduceSub, Int.reduceNeg, reduceCtorEq]; exact rfl) ?_; refine dw (ih (acc ++ [⟨3, a, (l.drop a).take D⟩], a + D) ⟨by simp only; omega, (by simp only [List.length_append, List.length_cons, List.length_nil]; omega), hs⟩ (by simp only; omega)) ?_; simp)
        · have q5 : (((a + D : Nat) : Int) < (l.length : Int)) = False := eq_false (by omega)
          repeat' (first | (with_reducible refine hY _ ?_; clear hY Y) | ((with_reducible first | refine av rfl (aD fun K' hK' => ab ?_) | refine hK' _ (ac fun Y hY => ab ?_) | refine bR rfl (ac fun Y hY => ab ?_) | refine ac fun Y hY => ab ?_ | refine aD fun K' hK' => ab ?_ | refine ae tk0 ag (ac fun Y hY => ab ?_) | refine ab ?_ | refine ap ?_ | refine bY rfl (bI fun K' hK' => ab ?_) | refine hK' _ _ (ac fun Y hY => ab ?_) | refine cJ rfl (ac fun Y hY => ab ?_) | refine bI fun K' hK' => ab ?_ | refine bX ?_); (try clear hK' K'); (try dsimp only [aop]); try simp only [go_sem, ↓reduceIte, Nat.reduceEqDiff, Nat.reduceLT, Nat.reduceLeDiff, Nat.reduceAdd, Nat.reduceSub, Nat.reduceMul, Nat.reduceBEq, Nat.reduceBNe, Nat.reducePow, Int.reduceToNat, Int.reduceLE, Int.reduceLT, Int.reduceMul, Int.reduceEq, Int.reducePow, Int.reduceAdd, Int.reduceSub, Int.reduceNeg, reduceCtorEq, ag, Tryz.results13, hw1, c32, c9, c10, c47, n32, n0, d0, q2, q3, q5, hwn, hgk, p4', dQ, hacl]) | (with_reducible first | refine ai ?_ | refine bj rfl ?_ | refine aS ?_ | refine cp ?_ | refine dk ?_ ?_ | refine al ?_ | refine am ?_ | refine aL fun K hK => ?_ | refine ax ?_ | refine ar ?_ | refine bN ?_ | refine bg ?_ | refine aO ?_ | refine bL ?_ | refine bo ?_ | refine aq ?_ | refine aC ?_ | refine az ?_ | refine bq ?_ | refine bx ?_ | refine b8 ?_ | refine b7 ?_ | refine bl ?_ | refine dq fun K hK => ?_) | (with_reducible refine hK _ ?_; clear hK K) | (with_reducible refine hK _ _ ?_ ?_; (· kernel_rfl); clear hK K) | ((with_reducible first | refine aR ?_ ?_ | refine ah ?_ ?_ | refine cR ?_ ?_); (· decide)) | (with_reducible refine bm tk0 ag ?_ ?_; (· kernel_rfl)) | ((with_reducible first | refine bK (fun hc => ?_) (fun hc => ?_) | refine bV (fun hc => ?_) (fun hc => ?_)) <;> (try simp only [decide_eq_true_eq, decide_eq_false_iff_not, Bool.not_true, Bool.not_false, Bool.not_eq_true', Bool.not_eq_false'] at hc) <;> (try (exfalso; omega))) | (with_reducible refine bQ ?_ ?_; (· (try and_intros) <;> first | omega | assumption | (simp only [List.length_append, List.length_map, List.length_cons, List.length_nil] <;> omega))) | (with_reducible refine aa (h2) ?_) | (with_reducible refine be (aU _) ?_) | (with_reducible refine cS ?_) | fail)
          all_goals (refine bA [0, 5, 6] (by simp only [go_sem, ↓reduceIte, Nat.reduceEqDiff, Nat.reduceLT, Nat.reduceLeDiff, Nat.reduceAdd, Nat.reduceSub, Nat.reduceMul, Nat.reduceBEq, Nat.reduceBNe, Nat.reducePow, Int.reduceToNat, Int.reduceLE, Int.reduceLT, Int.reduceMul, Int.reduceEq, Int.reducePow, Int.reduceAdd, Int.reduceSub, Int.reduceNeg, reduceCtorEq]; exact rfl) ?_; refine dw (ih (acc ++ [⟨3, a, (l.drop a).take D⟩], a + D) ⟨by simp only; omega, (by simp only [List.length_append, List.length_cons, List.length_nil]; omega), hs⟩ (by simp only; omega)) ?_; simp)
      · have q3 : ((D : Int) = 10) = False := eq_false (by omega)
        by_cases p6 : a + D < l.length
        · have q5 : (((a + D : Nat) : Int) < (l.length : Int)) = True := eq_true (by omega)
          rw [p5 p6] at h5
          repeat' (first | (with_reducible refine hY _ ?_; clear hY Y) | ((with_reducible first | refine av rfl (aD fun K' hK' => ab ?_) | refine hK' _ (ac fun Y hY => ab ?_) | refine bR rfl (ac fun Y hY => ab ?_) | refine ac fun Y hY => ab ?_ | refine aD fun K' hK' => ab ?_ | refine ae tk0 ag (ac fun Y hY => ab ?_) | refine ab ?_ | refine ap ?_ | refine bY rfl (bI fun K' hK' => ab ?_) | refine hK' _ _ (ac fun Y hY => ab ?_) | refine cJ rfl (ac fun Y hY => ab ?_) | refine bI fun K' hK' => ab ?_ | refine bX ?_); (try clear hK' K'); (try dsimp only [aop]); try simp only [go_sem, ↓reduceIte, Nat.reduceEqDiff, Nat.reduceLT, Nat.reduceLeDiff, Nat.reduceAdd, Nat.reduceSub, Nat.reduceMul, Nat.reduceBEq, Nat.reduceBNe, Nat.reducePow, Int.reduceToNat, Int.reduceLE, Int.reduceLT, Int.reduceMul, Int.reduceEq, Int.reducePow, Int.reduceAdd, Int.reduceSub, Int.reduceNeg, reduceCtorEq, ag, Tryz.results13, hw1, c32, c9, c10, c47, n32, n0, d0, q2, q3, q5, hwn, hgk, dQ, hacl]) | (with_reducible first | refine ai ?_ | refine bj rfl ?_ | refine aS ?_ | refine cp ?_ | refine dk ?_ ?_ | refine al ?_ | refine am ?_ | refine aL fun K hK => ?_ | refine ax ?_ | refine ar ?_ | refine bN ?_ | refine bg ?_ | refine aO ?_ | refine bL ?_ | refine bo ?_ | refine aq ?_ | refine aC ?_ | refine az ?_ | refine bq ?_ | refine bx ?_ | refine b8 ?_ | refine b7 ?_ | refine bl ?_ | refine dq fun K hK => ?_) | (with_reducible refine hK _ ?_; clear hK K) | (with_reducible refine hK _ _ ?_ ?_; (· kernel_rfl); clear hK K) | ((with_reducible first | refine aR ?_ ?_ | refine ah ?_ ?_ | refine cR ?_ ?_); (· decide)) | (with_reducible refine bm tk0 ag ?_ ?_; (· kernel_rfl)) | ((with_reducible first | refine bK (fun hc => ?_) (fun hc => ?_) | refine bV (fun hc => ?_) (fun hc => ?_)) <;> (try simp only [decide_eq_true_eq, decide_eq_false_iff_not, Bool.not_true, Bool.not_false, Bool.not_eq_true', Bool.not_eq_false'] at hc) <;> (try (exfalso; omega))) | (with_reducible refine bQ ?_ ?_; (· (try and_intros) <;> first | omega | assumption | (simp only [List.length_append, List.length_map, List.length_cons, List.length_nil] <;> omega))) | (with_reducible refine aa (h2) ?_) | (with_reducible refine aa (h5) ?_) | (with_reducible refine cS ?_) | fail)
          all_goals (refine bA [0, 5, 6] (by simp only [go_sem, ↓reduceIte, Nat.reduceEqDiff, Nat.reduceLT, Nat.reduceLeDiff, Nat.reduceAdd, Nat.reduceSub, Nat.reduceMul, Nat.reduceBEq, Nat.reduceBNe, Nat.reducePow, Int.reduceToNat, Int.reduceLE, Int.reduceLT, Int.reduceMul, Int.reduceEq, Int.reducePow, Int.reduceAdd, Int.reduceSub, Int.reduceNeg, reduceCtorEq]; exact rfl) ?_; refine dw (ih (acc ++ [⟨3, a, (l.drop a).take D⟩], a + D) ⟨by simp only; omega, (by simp only [List.length_append, List.length_cons, List.length_nil]; omega), hs⟩ (by simp only; omega)) ?_; simp)
        · have q5 : (((a + D : Nat) : Int) < (l.length : Int)) = False := eq_false (by omega)
          repeat' (first | (with_reducible refine hY _ ?_; clear hY Y) | ((with_reducible first | refine av rfl (aD fun K' hK' => ab ?_) | refine hK' _ (ac fun Y hY => ab ?_) | refine bR rfl (ac fun Y hY => ab ?_) | refine ac fun Y hY => ab ?_ | refine aD fun K' hK' => ab ?_ | refine ae tk0 ag (ac fun Y hY => ab ?_) | refine ab ?_ | refine ap ?_ | refine bY rfl (bI fun K' hK' => ab ?_) | refine hK' _ _ (ac fun Y hY => ab ?_) | refine cJ rfl (ac fun Y hY => ab ?_) | refine bI fun K' hK' => ab ?_ | refine bX ?_); (try clear hK' K'); (try dsimp only [aop]); try simp only [go_sem, ↓reduceIte, Nat.reduceEqDiff, Nat.reduceLT, Nat.reduceLeDiff, Nat.reduceAdd, Nat.reduceSub, Nat.reduceMul, Nat.reduceBEq, Nat.reduceBNe, Nat.reducePow, Int.reduceToNat, Int.reduceLE, Int.reduceLT, Int.reduceMul, Int.reduceEq, Int.reducePow, Int.reduceAdd, Int.reduceSub, Int.reduceNeg, reduceCtorEq, ag, Tryz.results13, hw1, c32, c9, c10, c47, n32, n0, d0, q2, q3, q5, hwn, hgk, dQ, hacl]) | (with_reducible first | refine ai ?_ | refine bj rfl ?_ | refine aS ?_ | refine cp ?_ | refine dk ?_ ?_ | refine al ?_ | refine am ?_ | refine aL fun K hK => ?_ | refine ax ?_ | refine ar ?_ | refine bN ?_ | refine bg ?_ | refine aO ?_ | refine bL ?_ | refine bo ?_ | refine aq ?_ | refine aC ?_ | refine az ?_ | refine bq ?_ | refine bx ?_ | refine b8 ?_ | refine b7 ?_ | refine bl ?_ | refine dq fun K hK => ?_) | (with_reducible refine hK _ ?_; clear hK K) | (with_reducible refine hK _ _ ?_ ?_; (· kernel_rfl); clear hK K) | ((with_reducible first | refine aR ?_ ?_ | refine ah ?_ ?_ | refine cR ?_ ?_); (· decide)) | (with_reducible refine bm tk0 ag ?_ ?_; (· kernel_rfl)) | ((with_reducible first | refine bK (fun hc => ?_) (fun hc => ?_) | refine bV (fun hc => ?_) (fun hc => ?_)) <;> (try simp only [decide_eq_true_eq, decide_eq_false_iff_not, Bool.not_true, Bool.not_false, Bool.not_eq_true', Bool.not_eq_false'] at hc) <;> (try (exfalso; omega))) | (with_reducible refine bQ ?_ ?_; (· (try and_intros) <;> first | omega | assumption | (simp only [List.length_append, List.length_map, List.length_cons, List.length_nil] <;> omega))) | (with_reducible refine aa (h2) ?_) | (with_reducible refine cS ?_) | fail)
          all_goals (refine bA [0, 5, 6] (by simp only [go_sem, ↓reduceIte, Nat.reduceEqDiff, Nat.reduceLT, Nat.reduceLeDiff, Nat.reduceAdd, Nat.reduceSub, Nat.reduceMul, Nat.reduceBEq, Nat.reduceBNe, Nat.reducePow, Int.reduceToNat, Int.reduceLE, Int.reduceLT, Int.reduceMul, Int.reduceEq, Int.reducePow, Int.reduceAdd, Int.reduceSub, Int.reduceNeg, reduceCtorEq]; exact rfl) ?_; refine dw (ih (acc ++ [⟨3, a, (l.drop a).take D⟩], a + D) ⟨by simp only; omega, (by simp only [List.length_append, List.length_cons, List.length_nil]; omega), hs⟩ (by simp only; omega)) ?_; simp)
  have d0 : ((0 : Int) < (D : Int)) = False := eq_false (by have := mt hd0.1 cd; omega)
  have hdn : ¬ 0 < bP digitsL (l.drop a) := by rw [hD]; exact mt hd0.1 cd
  cases ho : opS (l.drop a) with
  | none =>
    have ht : dT a (l.drop a) = (jp, 10) := by unfold dT; rw [if_neg hlp, if_neg hdn, ho]
    rw [ht] at hst
    rw [jH h0 hst] at hs
    rw [ho] at h2
    simp only [Option.getD_none] at h2
    have hoe : (([] : List UInt8) == []) = true := rfl
    subst hs
    clear hst ht hdr hd0 hdn hlp
    repeat' (first | (with_reducible refine hY _ ?_; clear hY Y) | ((with_reducible first | refine av rfl (aD fun K' hK' => ab ?_) | refine hK' _ (ac fun Y hY => ab ?_) | refine bR rfl (ac fun Y hY => ab ?_) | refine ac fun Y hY => ab ?_ | refine aD fun K' hK' => ab ?_ | refine ae tk0 ag (ac fun Y hY => ab ?_) | refine ab ?_ | refine ap ?_ | refine bY rfl (bI fun K' hK' => ab ?_) | refine hK' _ _ (ac fun Y hY => ab ?_) | refine cJ rfl (ac fun Y hY => ab ?_) | refine bI fun K' hK' => ab ?_ | refine bX ?_); (try clear hK' K'); (try dsimp only [aop]); try simp only [go_sem, ↓reduceIte, Nat.reduceEqDiff, Nat.reduceLT, Nat.reduceLeDiff, Nat.reduceAdd, Nat.reduceSub, Nat.reduceMul, Nat.reduceBEq, Nat.reduceBNe, Nat.reducePow, Int.reduceToNat, Int.reduceLE, Int.reduceLT, Int.reduceMul, Int.reduceEq, Int.reducePow, Int.reduceAdd, Int.reduceSub, Int.reduceNeg, reduceCtorEq, ag, Tryz.results13, hw1, c32, c9, c10, n32, n0, d0, hgd, hoe]) | (with_reducible first | refine ai ?_ | refine bj rfl ?_ | refine aS ?_ | refine cp ?_ | refine dk ?_ ?_ | refine al ?_ | refine am ?_ | refine aL fun K hK => ?_ | refine ax ?_ | refine ar ?_ | refine bN ?_ | refine bg ?_ | refine aO ?_ | refine bL ?_ | refine bo ?_ | refine aq ?_ | refine aC ?_ | refine az ?_ | refine bq ?_ | refine bx ?_ | refine b8 ?_ | refine b7 ?_ | refine bl ?_ | refine dq fun K hK => ?_) | (with_reducible refine hK _ ?_; clear hK K) | (with_reducible refine hK _ _ ?_ ?_; (· kernel_rfl); clear hK K) | ((with_reducible first | refine aR ?_ ?_ | refine ah ?_ ?_ | refine cR ?_ ?_); (· decide)) | (with_reducible refine bm tk0 ag ?_ ?_; (· kernel_rfl)) | ((with_reducible first | refine bK (fun hc => ?_) (fun hc => ?_) | refine bV (fun hc => ?_) (fun hc => ?_)) <;> (try simp only [decide_eq_true_eq, decide_eq_false_iff_not, Bool.not_true, Bool.not_false, Bool.not_eq_true', Bool.not_eq_false'] at hc) <;> (try (exfalso; omega))) | (with_reducible refine bQ ?_ ?_; (· (try and_intros) <;> first | omega | assumption | (simp only [List.length_append, List.length_map, List.length_cons, List.length_nil] <;> omega))) | (with_reducible refine aa (h2) ?_) | (with_reducible refine be (aU _) ?_) | (with_reducible refine cS ?_) | fail)
    all_goals rfl
  | some o =>
    have hm := List.mem_of_find?_eq_some ho
    have hp := List.find?_some ho
    have hop := sM o hm
    have hol := (List.isPrefixOf_iff_prefix.1 hp).length_le
    have ht : dT a (l.drop a) = (⟨4, a, o⟩, 0) := by unfold dT; rw [if_neg hlp, if_neg hdn, ho]
    rw [ht] at hst
    rw [ij h0 hst] at hs
    simp only [List.drop_drop] at hs
    rw [ho] at h2
    rw [List.length_drop] at hol
    clear hst ht hdr hd0 hdn hlp ho hm hp
    cases o with
    | nil => exact absurd hop (by simp)
    | cons y ys =>
    have hwn : IntKind.i64.wrap ((a : Int) + ((y :: ys).length : Int)) = ((a + (y :: ys).length : Nat) : Int) := by rw [bO (by omega) (by omega)]; omega
    have hoe : (y :: ys == []) = false := rfl
    simp only [Option.getD_some] at h2
    generalize hgo : y :: ys = o at *
    repeat' (first | (with_reducible refine hY _ ?_; clear hY Y) | ((with_reducible first | refine av rfl (aD fun K' hK' => ab ?_) | refine hK' _ (ac fun Y hY => ab ?_) | refine bR rfl (ac fun Y hY => ab ?_) | refine ac fun Y hY => ab ?_ | refine aD fun K' hK' => ab ?_ | refine ae tk0 ag (ac fun Y hY => ab ?_) | refine ab ?_ | refine ap ?_ | refine bY rfl (bI fun K' hK' => ab ?_) | refine hK' _ _ (ac fun Y hY => ab ?_) | refine cJ rfl (ac fun Y hY => ab ?_) | refine bI fun K' hK' => ab ?_ | refine bX ?_); (try clear hK' K'); (try dsimp only [aop]); try simp only [go_sem, ↓reduceIte, Nat.reduceEqDiff, Nat.reduceLT, Nat.reduceLeDiff, Nat.reduceAdd, Nat.reduceSub, Nat.reduceMul, Nat.reduceBEq, Nat.reduceBNe, Nat.reducePow, Int.reduceToNat, Int.reduceLE, Int.reduceLT, Int.reduceMul, Int.reduceEq, Int.reducePow, Int.reduceAdd, Int.reduceSub, Int.reduceNeg, reduceCtorEq, ag, Tryz.results13, hw1, c32, c9, c10, n32, n0, d0, hgd, hoe, hwn, hacl]) | (with_reducible first | refine ai ?_ | refine bj rfl ?_ | refine aS ?_ | refine cp ?_ | refine dk ?_ ?_ | refine al ?_ | refine am ?_ | refine aL fun K hK => ?_ | refine ax ?_ | refine ar ?_ | refine bN ?_ | refine bg ?_ | refine aO ?_ | refine bL ?_ | refine bo ?_ | refine aq ?_ | refine aC ?_ | refine az ?_ | refine bq ?_ | refine bx ?_ | refine b8 ?_ | refine b7 ?_ | refine bl ?_ | refine dq fun K hK => ?_) | (with_reducible refine hK _ ?_; clear hK K) | (with_reducible refine hK _ _ ?_ ?_; (· kernel_rfl); clear hK K) | ((with_reducible first | refine aR ?_ ?_ | refine ah ?_ ?_ | refine cR ?_ ?_); (· decide)) | (with_reducible refine bm tk0 ag ?_ ?_; (· kernel_rfl)) | ((with_reducible first | refine bK (fun hc => ?_) (fun hc => ?_) | refine bV (fun hc => ?_) (fun hc => ?_)) <;> (try simp only [decide_eq_true_eq, decide_eq_false_iff_not, Bool.not_true, Bool.not_false, Bool.not_eq_true', Bool.not_eq_false'] at hc) <;> (try (exfalso; omega))) | (with_reducible refine bQ ?_ ?_; (· (try and_intros) <;> first | omega | assumption | (simp only [List.length_append, List.length_map, List.length_cons, List.length_nil] <;> omega))) | (with_reducible refine aa (h2) ?_) | (with_reducible refine be (aU _) ?_) | (with_reducible refine cS ?_) | fail)
    all_goals (refine bA [0, 5, 6] (by simp only [go_sem, ↓reduceIte, Nat.reduceEqDiff, Nat.reduceLT, Nat.reduceLeDiff, Nat.reduceAdd, Nat.reduceSub, Nat.reduceMul, Nat.reduceBEq, Nat.reduceBNe, Nat.reducePow, Int.reduceToNat, Int.reduceLE, Int.reduceLT, Int.reduceMul, Int.reduceEq, Int.reducePow, Int.reduceAdd, Int.reduceSub, Int.reduceNeg, reduceCtorEq]; exact rfl) ?_; refine dw (ih (acc ++ [⟨4, a, o⟩], a + o.length) ⟨by simp only; omega, (by simp only [List.length_append, List.length_cons, List.length_nil]; omega), hs⟩ (by simp only; omega)) ?_; simp)
end Go.Proofs.YtpkcgdikbjaoaaaGreatDoor
