/- Letters, digits, numbers, names: scan's and the document's, in K. -/
import Derived.Test.YtpkcgdikbjaoaaaGreatDoorZ9
namespace Go.Proofs.YtpkcgdikbjaoaaaGreatDoor
set_option linter.unusedSimpArgs false
set_option linter.unusedVariables false
open Go.RowKit
def dI (c : UInt8) : Bool := decide (c.toNat = 95) || (decide (97 ≤ c.toNat) && decide (c.toNat ≤ 122)) || (decide (65 ≤ c.toNat) && decide (c.toNat ≤ 90))
def dF (c : UInt8) : Bool := decide (48 ≤ c.toNat) && decide (c.toNat ≤ 57)
def lettersL : List UInt8 := [65, 66, 67, 68, 69, 70, 71, 72, 73, 74, 75, 76, 77, 78, 79, 80, 81, 82, 83, 84, 85, 86, 87, 88, 89, 90, 97, 98, 99, 100, 101, 102, 103, 104, 105, 106, 107, 108, 109, 110, 111, 112, 113, 114, 115, 116, 117, 118, 119, 120, 121, 122, 95]
def digitsL : List UInt8 := [48, 49, 50, 51, 52, 53, 54, 55, 56, 57]
def wordL : List UInt8 := lettersL ++ digitsL
theorem gR (c : UInt8) : lettersL.contains c = dI c := by
  have h : ∀ n : Fin 256, lettersL.contains (UInt8.ofNat n.val) = dI (UInt8.ofNat n.val) := by decide +kernel
  have := h ⟨c.toNat, c.toNat_lt⟩
  simpa using this
theorem jI (c : UInt8) : digitsL.contains c = dF c := by
  have h : ∀ n : Fin 256, digitsL.contains (UInt8.ofNat n.val) = dF (UInt8.ofNat n.val) := by decide +kernel
  have := h ⟨c.toNat, c.toNat_lt⟩
  simpa using this
theorem mS (c : UInt8) : wordL.contains c = (dI c || dF c) := by
  rw [← gR, ← jI]
  unfold wordL
  simp
theorem si : ∀ c ∈ lettersL, c.toNat < 128 := by decide +kernel
theorem wH : ∀ c ∈ digitsL, c.toNat < 128 := by decide +kernel
theorem uR : ∀ c ∈ wordL, c.toNat < 128 := by decide +kernel
def nN : List UInt8 → Nat
  | [] => 0
  | c :: r => if dI c then 1 + (r.takeWhile fun c => dI c || dF c).length else 0
theorem among_pos {some r : List UInt8} : 0 < bP some r ↔ ∃ c t, r = c :: t ∧ some.contains c = true := by
  unfold bP
  cases r with
  | nil => simp
  | cons c t =>
    rw [List.takeWhile_cons]
    by_cases h : some.contains c = true
    · rw [if_pos h]; simp; exact List.contains_iff_mem.1 h
    · rw [if_neg h]; simp; exact fun e => h (List.contains_iff_mem.2 e)
theorem qG (r : List UInt8) : nN r = if 0 < bP lettersL r then bP wordL r else 0 := by
  cases r with
  | nil => simp [nN, bP]
  | cons c t =>
    by_cases h : dI c = true
    · have h1 : 0 < bP lettersL (c :: t) := among_pos.2 ⟨c, t, rfl, by rw [gR]; exact h⟩
      rw [if_pos h1]
      show (if dI c then 1 + (t.takeWhile fun c => dI c || dF c).length else 0) = bP wordL (c :: t)
      unfold bP
      have e : (fun c => wordL.contains c) = fun c => dI c || dF c := funext mS
      rw [if_pos h, e, List.takeWhile_cons, if_pos (by simp [h]), List.length_cons]; omega
    · have h1 : ¬ 0 < bP lettersL (c :: t) := fun e => by
        obtain ⟨c', t', e1, e2⟩ := among_pos.1 e
        cases e1
        rw [gR] at e2; exact h e2
      rw [if_neg h1]
      show (if dI c then 1 + (t.takeWhile fun c => dI c || dF c).length else 0) = 0
      rw [if_neg h]
theorem ml {r : List UInt8} {n : Nat} (hn : n ≤ r.length) (h : ∀ j (hj : j < r.length), j < n → (dI r[j] || (decide (0 < j) && dF r[j])) = true) (he : ∀ hj : n < r.length, (dI r[n] || (decide (0 < n) && dF r[n])) = false) : nN r = n := by
  cases r with
  | nil => simp at hn; subst hn; rfl
  | cons c t =>
    cases n with
    | zero =>
      have := he (by simp)
      simp at this
      simp [nN, this]
    | succ n =>
      have h0 := h 0 (by simp) (by omega)
      simp at h0
      show (if dI c then 1 + (t.takeWhile fun c => dI c || dF c).length else 0) = n + 1
      rw [if_pos h0]
      have e1 : ∀ (t : List UInt8) (n : Nat), n ≤ t.length → (∀ j (hj : j < t.length), j < n → (dI t[j] || dF t[j]) = true) → (∀ hj : n < t.length, (dI t[n] || dF t[n]) = false) → (t.takeWhile fun c => dI c || dF c).length = n := by
        intro t
        induction t with
        | nil => intro n hn _ _; simp at hn; subst hn; rfl
        | cons x t ih =>
          intro n hn hh hx
          cases n with
          | zero => have := hx (by simp); simp only [List.getElem_cons_zero] at this; rw [List.takeWhile_cons, if_neg (by rw [this]; simp)]; rfl
          | succ n =>
            have := hh 0 (by simp) (by omega)
            simp only [List.getElem_cons_zero] at this
            rw [List.takeWhile_cons, if_pos this, List.length_cons, ih n (by simpa using hn) (fun j hj hjn => hh (j + 1) (Nat.succ_lt_succ hj) (by omega)) (fun hj => hx (Nat.succ_lt_succ hj))]
      rw [e1 t n (by simpa using hn) (fun j hj hjn => by simpa using h (j + 1) (Nat.succ_lt_succ hj) (by omega)) (fun hj => by simpa using he (Nat.succ_lt_succ hj))]
      omega
abbrev byA (c : UInt8) : AV := .c (.int .u8 (c.toNat : Int))
def dZ : Nat → List Nat
  | 0 => [0]
  | 1 => [0]
  | _ => []
set_option maxRecDepth 100000 in
set_option maxHeartbeats 4000000 in
theorem qE (c : UInt8) : AFn Tryz.prog 38 [byA c] [] (.c (.bool (dI c))) [] := by
  refine aK [] Tryz.func38 rfl Tryz.ntmps38 (Nat.le_of_ble_eq_true rfl) (Nat.le_of_ble_eq_true rfl) fun w0 G0 B0 Pr hB0 => ?_
  simp only [aQ, aI, List.cons_append, List.nil_append]
  repeat' (first | (with_reducible refine hY _ ?_; clear hY Y) | ((with_reducible first | refine av rfl (aD fun K' hK' => ab ?_) | refine hK' _ (ac fun Y hY => ab ?_) | refine bR rfl (ac fun Y hY => ab ?_) | refine ac fun Y hY => ab ?_ | refine aD fun K' hK' => ab ?_ | refine ae tk0 dZ (ac fun Y hY => ab ?_) | refine ab ?_ | refine ap ?_); (try clear hK' K'); (try dsimp only [aop]); try simp only [go_sem, ↓reduceIte, Nat.reduceEqDiff, Nat.reduceLT, Nat.reduceLeDiff, Nat.reduceAdd, Nat.reduceSub, Nat.reduceMul, Nat.reduceBEq, Nat.reduceBNe, Nat.reducePow, Int.reduceToNat, Int.reduceLE, Int.reduceLT, Int.reduceMul, Int.reduceEq, Int.reducePow, Int.reduceAdd, Int.reduceSub, Int.reduceNeg, reduceCtorEq, dZ, Tryz.results38]) | (with_reducible first | refine ai ?_ | refine bj rfl ?_ | refine aS ?_ | refine cp ?_ | refine dk ?_ ?_ | refine al ?_ | refine am ?_ | refine aL fun K hK => ?_ | refine az ?_) | (with_reducible refine hK _ ?_; clear hK K) | ((with_reducible refine aR ?_ ?_); (· decide)) | ((with_reducible refine bK (fun hc => ?_) (fun hc => ?_)) <;> (try simp only [decide_eq_true_eq, decide_eq_false_iff_not, Bool.not_true, Bool.not_false, Bool.not_eq_true', Bool.not_eq_false'] at hc) <;> (try (exfalso; omega))))
  all_goals (refine congrArg (fun b => AV.c (Value.bool b)) ?_; rw [Bool.eq_iff_iff]; simp [dI]; omega)
def ec : Nat → List Nat
  | 0 => [0]
  | 1 => [0]
  | _ => []
set_option maxRecDepth 100000 in
set_option maxHeartbeats 4000000 in
theorem oH (c : UInt8) : AFn Tryz.prog 35 [byA c] [] (.c (.bool (dF c))) [] := by
  refine aK [] Tryz.func35 rfl Tryz.ntmps35 (Nat.le_of_ble_eq_true rfl) (Nat.le_of_ble_eq_true rfl) fun w0 G0 B0 Pr hB0 => ?_
  simp only [aQ, aI, List.cons_append, List.nil_append]
  repeat' (first | (with_reducible refine hY _ ?_; clear hY Y) | ((with_reducible first | refine av rfl (aD fun K' hK' => ab ?_) | refine hK' _ (ac fun Y hY => ab ?_) | refine bR rfl (ac fun Y hY => ab ?_) | refine ac fun Y hY => ab ?_ | refine aD fun K' hK' => ab ?_ | refine ae tk0 ec (ac fun Y hY => ab ?_) | refine ab ?_ | refine ap ?_); (try clear hK' K'); (try dsimp only [aop]); try simp only [go_sem, ↓reduceIte, Nat.reduceEqDiff, Nat.reduceLT, Nat.reduceLeDiff, Nat.reduceAdd, Nat.reduceSub, Nat.reduceMul, Nat.reduceBEq, Nat.reduceBNe, Nat.reducePow, Int.reduceToNat, Int.reduceLE, Int.reduceLT, Int.reduceMul, Int.reduceEq, Int.reducePow, Int.reduceAdd, Int.reduceSub, Int.reduceNeg, reduceCtorEq, ec, Tryz.results35]) | (with_reducible first | refine ai ?_ | refine bj rfl ?_ | refine aS ?_ | refine dk ?_ ?_ | refine al ?_ | refine am ?_ | refine aL fun K hK => ?_ | refine az ?_) | (with_reducible refine hK _ ?_; clear hK K) | ((with_reducible refine aR ?_ ?_); (· decide)) | ((with_reducible refine bK (fun hc => ?_) (fun hc => ?_)) <;> (try simp only [decide_eq_true_eq, decide_eq_false_iff_not, Bool.not_true, Bool.not_false, Bool.not_eq_true', Bool.not_eq_false'] at hc) <;> (try (exfalso; omega))))
  all_goals (refine congrArg (fun b => AV.c (Value.bool b)) ?_; rw [Bool.eq_iff_iff]; simp [dF]; omega)
theorem gp {l : List UInt8} {i : Nat} (h : i < l.length) : l.getD i 0 = l[i] := by
  rw [List.getD_eq_getElem?_getD, List.getElem?_eq_getElem h]; rfl
def bu : Nat → List Nat
  | 0 => [0, 1]
  | 1 => [0, 1]
  | 2 => [0, 1, 5]
  | 3 => [0, 1, 5]
  | 4 => [5]
  | _ => []
set_option maxRecDepth 100000 in
set_option maxHeartbeats 4000000 in
theorem yK (l : List UInt8) (a : Nat) (ha : a ≤ l.length) (hl : l.length ≤ 4611686018427387904) : AFn Tryz.prog 34 [bs l, .c (.int .i64 (a : Int))] [] (.c (.int .i64 (nN (l.drop a) : Int))) [] := by
  refine aK [] Tryz.func34 rfl Tryz.ntmps34 (Nat.le_of_ble_eq_true rfl) (Nat.le_of_ble_eq_true rfl) fun w0 G0 B0 Pr hB0 => ?_
  simp only [aQ, aI, List.cons_append, List.nil_append]
  repeat' (first | (with_reducible refine hY _ ?_; clear hY Y) | ((with_reducible first | refine av rfl (aD fun K' hK' => ab ?_) | refine hK' _ (ac fun Y hY => ab ?_) | refine ae tk0 bu (ac fun Y hY => ab ?_)); (try clear hK' K'); (try dsimp only [aop]); try simp only [go_sem, ↓reduceIte, Nat.reduceEqDiff, Nat.reduceLT, Nat.reduceLeDiff, Nat.reduceAdd, Nat.reduceSub, Nat.reduceMul, Nat.reduceBEq, Nat.reduceBNe, Nat.reducePow, Int.reduceToNat, Int.reduceLE, Int.reduceLT, Int.reduceMul, Int.reduceEq, Int.reducePow, Int.reduceAdd, Int.reduceSub, Int.reduceNeg, reduceCtorEq, bu, Tryz.results34]) | (with_reducible first | refine ai ?_ | refine al ?_ | refine am ?_ | refine aL fun K hK => ?_ | refine aq ?_ | refine bx ?_) | (with_reducible refine hK _ ?_; clear hK K))
  refine cw (α := Nat) (fun k => [(0, bs l), (1, .c (.int .i64 (a : Int))), (5, .c (.int .i64 (k : Int)))])
    (fun k => a + k ≤ l.length ∧ ∀ j (hj : j < (l.drop a).length), j < k → (dI (l.drop a)[j] || (decide (0 < j) && dF (l.drop a)[j])) = true) (fun k => l.length - k) 0 [0, 1, 5] ?_ ⟨by omega, fun j _ h => absurd h (by omega)⟩ ?_
  · simp only [go_sem, ↓reduceIte, Nat.reduceEqDiff, Nat.reduceLT, Nat.reduceLeDiff, Nat.reduceAdd, Nat.reduceSub, Nat.reduceMul, Nat.reduceBEq, Nat.reduceBNe, Nat.reducePow, Int.reduceToNat, Int.reduceLE, Int.reduceLT, Int.reduceMul, Int.reduceEq, Int.reducePow, Int.reduceAdd, Int.reduceSub, Int.reduceNeg, reduceCtorEq] <;> rfl
  rintro k ⟨hk, hall⟩ ih
  have hw1 : IntKind.i64.wrap ((a : Int) + (k : Int)) = ((a + k : Nat) : Int) := by rw [bO (by omega) (by omega)]; omega
  by_cases hlt : a + k < l.length
  · have hlt' : (((a + k : Nat) : Int) < (l.length : Int)) = True := by simp; omega
    have hkw : IntKind.i64.wrap ((k : Int) + 1) = ((k + 1 : Nat) : Int) := by rw [bO (by omega) (by omega)]; rfl
    have hat := gp hlt
    have hd : ∀ (hj : k < (l.drop a).length), (l.drop a)[k] = l[a + k] := fun hj => by simp
    have hd2 : ∀ j (hj : j < (l.drop a).length), j = k → (l.drop a)[j] = l[a + k] := fun j hj e => by subst e; exact hd hj
    generalize l[a + k] = c at *
    have hlc := qE c
    have hdc := oH c
    by_cases hc1 : dI c = true
    · rw [hc1] at hlc
      repeat' (first | (with_reducible refine hY _ ?_; clear hY Y) | ((with_reducible first | refine av rfl (aD fun K' hK' => ab ?_) | refine hK' _ (ac fun Y hY => ab ?_) | refine bR rfl (ac fun Y hY => ab ?_) | refine ac fun Y hY => ab ?_ | refine aD fun K' hK' => ab ?_ | refine ae tk0 bu (ac fun Y hY => ab ?_) | refine ab ?_); (try clear hK' K'); (try dsimp only [aop]); try simp only [go_sem, ↓reduceIte, Nat.reduceEqDiff, Nat.reduceLT, Nat.reduceLeDiff, Nat.reduceAdd, Nat.reduceSub, Nat.reduceMul, Nat.reduceBEq, Nat.reduceBNe, Nat.reducePow, Int.reduceToNat, Int.reduceLE, Int.reduceLT, Int.reduceMul, Int.reduceEq, Int.reducePow, Int.reduceAdd, Int.reduceSub, Int.reduceNeg, reduceCtorEq, bu, Tryz.results34, hw1, hlt', hat]) | (with_reducible first | refine ai ?_ | refine bj rfl ?_ | refine aS ?_ | refine cp ?_ | refine dk ?_ ?_ | refine al ?_ | refine am ?_ | refine aL fun K hK => ?_ | refine ax ?_ | refine aO ?_ | refine aq ?_ | refine aC ?_) | (with_reducible refine hK _ ?_; clear hK K) | ((with_reducible first | refine aR ?_ ?_ | refine ah ?_ ?_); (· decide)) | (with_reducible refine bQ ?_ ?_; (· (try and_intros) <;> first | omega | assumption | (simp only [List.length_append, List.length_map, List.length_cons, List.length_nil] <;> omega))) | (with_reducible refine aa (hlc) ?_))
      refine bA [0, 1, 5] (by simp only [go_sem, ↓reduceIte, Nat.reduceEqDiff, Nat.reduceLT, Nat.reduceLeDiff, Nat.reduceAdd, Nat.reduceSub, Nat.reduceMul, Nat.reduceBEq, Nat.reduceBNe, Nat.reducePow, Int.reduceToNat, Int.reduceLE, Int.reduceLT, Int.reduceMul, Int.reduceEq, Int.reducePow, Int.reduceAdd, Int.reduceSub, Int.reduceNeg, reduceCtorEq]; exact rfl) ?_
      rw [hkw]
      exact ih (k + 1) ⟨by omega, fun j hj hjk => by
        by_cases e : j = k
        · rw [hd2 j hj e, hc1]; rfl
        · exact hall j hj (by omega)⟩ (by omega)
    · have hc1' := Bool.eq_false_iff.2 hc1
      rw [hc1'] at hlc
      by_cases hk0 : 0 < k
      · have hk0' : ((0 : Int) < (k : Int)) = True := by simp; omega
        by_cases hc2 : dF c = true
        · rw [hc2] at hdc
          repeat' (first | (with_reducible refine hY _ ?_; clear hY Y) | ((with_reducible first | refine av rfl (aD fun K' hK' => ab ?_) | refine hK' _ (ac fun Y hY => ab ?_) | refine bR rfl (ac fun Y hY => ab ?_) | refine ac fun Y hY => ab ?_ | refine aD fun K' hK' => ab ?_ | refine ae tk0 bu (ac fun Y hY => ab ?_) | refine ab ?_); (try clear hK' K'); (try dsimp only [aop]); try simp only [go_sem, ↓reduceIte, Nat.reduceEqDiff, Nat.reduceLT, Nat.reduceLeDiff, Nat.reduceAdd, Nat.reduceSub, Nat.reduceMul, Nat.reduceBEq, Nat.reduceBNe, Nat.reducePow, Int.reduceToNat, Int.reduceLE, Int.reduceLT, Int.reduceMul, Int.reduceEq, Int.reducePow, Int.reduceAdd, Int.reduceSub, Int.reduceNeg, reduceCtorEq, bu, Tryz.results34, hw1, hlt', hat, hk0']) | (with_reducible first | refine ai ?_ | refine aS ?_ | refine al ?_ | refine am ?_ | refine aL fun K hK => ?_ | refine ax ?_ | refine aO ?_ | refine aq ?_ | refine aC ?_) | (with_reducible refine hK _ ?_; clear hK K) | ((with_reducible first | refine aR ?_ ?_ | refine ah ?_ ?_); (· decide)) | (with_reducible refine bQ ?_ ?_; (· (try and_intros) <;> first | omega | assumption | (simp only [List.length_append, List.length_map, List.length_cons, List.length_nil] <;> omega))) | (with_reducible refine aa (hlc) ?_) | (with_reducible refine aa (hdc) ?_))
          refine bA [0, 1, 5] (by simp only [go_sem, ↓reduceIte, Nat.reduceEqDiff, Nat.reduceLT, Nat.reduceLeDiff, Nat.reduceAdd, Nat.reduceSub, Nat.reduceMul, Nat.reduceBEq, Nat.reduceBNe, Nat.reducePow, Int.reduceToNat, Int.reduceLE, Int.reduceLT, Int.reduceMul, Int.reduceEq, Int.reducePow, Int.reduceAdd, Int.reduceSub, Int.reduceNeg, reduceCtorEq]; exact rfl) ?_
          rw [hkw]
          exact ih (k + 1) ⟨by omega, fun j hj hjk => by
            by_cases e : j = k
            · rw [hd2 j hj e, hc1', hc2]; simp; omega
            · exact hall j hj (by omega)⟩ (by omega)
        · have hc2' := Bool.eq_false_iff.2 hc2
          rw [hc2'] at hdc
          repeat' (first | (with_reducible refine hY _ ?_; clear hY Y) | ((with_reducible first | refine av rfl (aD fun K' hK' => ab ?_) | refine hK' _ (ac fun Y hY => ab ?_) | refine bR rfl (ac fun Y hY => ab ?_) | refine ac fun Y hY => ab ?_ | refine aD fun K' hK' => ab ?_ | refine ae tk0 bu (ac fun Y hY => ab ?_) | refine ab ?_ | refine ap ?_); (try clear hK' K'); (try dsimp only [aop]); try simp only [go_sem, ↓reduceIte, Nat.reduceEqDiff, Nat.reduceLT, Nat.reduceLeDiff, Nat.reduceAdd, Nat.reduceSub, Nat.reduceMul, Nat.reduceBEq, Nat.reduceBNe, Nat.reducePow, Int.reduceToNat, Int.reduceLE, Int.reduceLT, Int.reduceMul, Int.reduceEq, Int.reducePow, Int.reduceAdd, Int.reduceSub, Int.reduceNeg, reduceCtorEq, bu, Tryz.results34, hw1, hlt', hat, hk0']) | (with_reducible first | refine ai ?_ | refine aS ?_ | refine al ?_ | refine am ?_ | refine aL fun K hK => ?_ | refine ar ?_ | refine bN ?_ | refine bo ?_ | refine az ?_ | refine bq ?_) | (with_reducible refine hK _ ?_; clear hK K) | ((with_reducible first | refine aR ?_ ?_ | refine ah ?_ ?_); (· decide)) | (with_reducible refine bQ ?_ ?_; (· (try and_intros) <;> first | omega | assumption | (simp only [List.length_append, List.length_map, List.length_cons, List.length_nil] <;> omega))) | (with_reducible refine aa (hlc) ?_) | (with_reducible refine aa (hdc) ?_))
          rw [ml (r := l.drop a) (n := k) (by simp; omega) hall (fun hj => by rw [hd hj, hc1', hc2']; simp)]
      · have hk0' : ((0 : Int) < (k : Int)) = False := by simp; omega
        repeat' (first | (with_reducible refine hY _ ?_; clear hY Y) | ((with_reducible first | refine av rfl (aD fun K' hK' => ab ?_) | refine hK' _ (ac fun Y hY => ab ?_) | refine bR rfl (ac fun Y hY => ab ?_) | refine ac fun Y hY => ab ?_ | refine aD fun K' hK' => ab ?_ | refine ae tk0 bu (ac fun Y hY => ab ?_) | refine ab ?_ | refine ap ?_); (try clear hK' K'); (try dsimp only [aop]); try simp only [go_sem, ↓reduceIte, Nat.reduceEqDiff, Nat.reduceLT, Nat.reduceLeDiff, Nat.reduceAdd, Nat.reduceSub, Nat.reduceMul, Nat.reduceBEq, Nat.reduceBNe, Nat.reducePow, Int.reduceToNat, Int.reduceLE, Int.reduceLT, Int.reduceMul, Int.reduceEq, Int.reducePow, Int.reduceAdd, Int.reduceSub, Int.reduceNeg, reduceCtorEq, bu, Tryz.results34, hw1, hlt', hat, hk0']) | (with_reducible first | refine ai ?_ | refine bj rfl ?_ | refine aS ?_ | refine dk ?_ ?_ | refine al ?_ | refine am ?_ | refine aL fun K hK => ?_ | refine ar ?_ | refine bN ?_ | refine bo ?_ | refine az ?_ | refine bq ?_) | (with_reducible refine hK _ ?_; clear hK K) | ((with_reducible first | refine aR ?_ ?_ | refine ah ?_ ?_); (· decide)) | (with_reducible refine bQ ?_ ?_; (· (try and_intros) <;> first | omega | assumption | (simp only [List.length_append, List.length_map, List.length_cons, List.length_nil] <;> omega))) | (with_reducible refine aa (hlc) ?_))
        rw [ml (r := l.drop a) (n := k) (by simp; omega) hall (fun hj => by rw [hd hj, hc1']; simp; omega)]
  · have hlt' : (((a + k : Nat) : Int) < (l.length : Int)) = False := by simp; omega
    repeat' (first | (with_reducible refine hY _ ?_; clear hY Y) | ((with_reducible first | refine av rfl (aD fun K' hK' => ab ?_) | refine hK' _ (ac fun Y hY => ab ?_) | refine bR rfl (ac fun Y hY => ab ?_) | refine ac fun Y hY => ab ?_ | refine ae tk0 bu (ac fun Y hY => ab ?_) | refine ab ?_ | refine ap ?_); (try clear hK' K'); (try dsimp only [aop]); try simp only [go_sem, ↓reduceIte, Nat.reduceEqDiff, Nat.reduceLT, Nat.reduceLeDiff, Nat.reduceAdd, Nat.reduceSub, Nat.reduceMul, Nat.reduceBEq, Nat.reduceBNe, Nat.reducePow, Int.reduceToNat, Int.reduceLE, Int.reduceLT, Int.reduceMul, Int.reduceEq, Int.reducePow, Int.reduceAdd, Int.reduceSub, Int.reduceNeg, reduceCtorEq, bu, Tryz.results34, hw1, hlt']) | (with_reducible first | refine ai ?_ | refine bj rfl ?_ | refine cp ?_ | refine dk ?_ ?_ | refine al ?_ | refine am ?_ | refine aL fun K hK => ?_ | refine ar ?_ | refine bN ?_ | refine bo ?_ | refine az ?_ | refine bq ?_) | (with_reducible refine hK _ ?_; clear hK K) | ((with_reducible first | refine aR ?_ ?_ | refine ah ?_ ?_); (· decide)))
    rw [ml (r := l.drop a) (n := k) (by simp; omega) hall (fun hj => absurd hj (by simp; omega))]
end Go.Proofs.YtpkcgdikbjaoaaaGreatDoor
