/- Names and numbers: scan's and the document's, in K. scan.token, in K. -/
import Derived.Test.YtpkcgdikbjaoaaaDoorZ10
namespace Go.Proofs.YtpkcgdikbjaoaaaDoor
set_option linter.unusedSimpArgs false
set_option linter.unusedVariables false
open Go.RowKit
def leL (a b : List UInt8) : Bool := Op.bytesLess a b || a == b
def p8 : List UInt8 := [49, 48, 55, 51, 55, 52, 49, 56, 50, 52]
def qx (d : List UInt8) : Bool := (!decide (((d.getD 0 0).toNat : Int) = 48) || decide (d.length = 1)) && (decide (d.length < 10) || (decide (d.length = 10) && leL d p8))
def de : Nat → List Nat
  | 0 => [0]
  | 1 => [0]
  | _ => []
set_option maxRecDepth 100000 in
set_option maxHeartbeats 4000000 in
theorem px (d : List UInt8) (hd : 0 < d.length) : AFn Tryd.prog 23 [bs d] [] (.c (.bool (qx d))) [] := by
  have h0 : ((0 : Int) < (d.length : Int)) = True := by simp; omega
  refine aM [] Tryd.func23 rfl Tryd.ntmps23 (Nat.le_of_ble_eq_true rfl) (Nat.le_of_ble_eq_true rfl) fun w0 G0 B0 Pr hB0 => ?_
  simp only [aS, aJ, List.cons_append, List.nil_append]
  repeat' (first | (with_reducible refine hY _ ?_; clear hY Y) | ((with_reducible first | refine aD rfl (aN fun K' hK' => ab ?_) | refine hK' _ (ac fun Y hY => ab ?_) | refine bV rfl (ac fun Y hY => ab ?_) | refine ac fun Y hY => ab ?_ | refine aN fun K' hK' => ab ?_ | refine ae tk0 de (ac fun Y hY => ab ?_) | refine ab ?_ | refine av ?_); (try clear hK' K'); (try dsimp only [aop]); try simp only [go_sem, ↓reduceIte, Nat.reduceEqDiff, Nat.reduceLT, Nat.reduceLeDiff, Nat.reduceAdd, Nat.reduceSub, Nat.reduceMul, Nat.reduceBEq, Nat.reduceBNe, Nat.reducePow, Int.reduceToNat, Int.reduceLE, Int.reduceLT, Int.reduceMul, Int.reduceEq, Int.reducePow, Int.reduceAdd, Int.reduceSub, Int.reduceNeg, reduceCtorEq, de, Tryd.results23, h0]) | (with_reducible first | refine aj ?_ | refine bW rfl ?_ | refine bl ?_ | refine dU ?_ | refine fa ?_ ?_ | refine ar ?_ | refine au ?_ | refine aT fun K hK => ?_ | refine aF ?_) | (with_reducible refine hK _ ?_; clear hK K) | ((with_reducible refine bh ?_ ?_); (· decide)) | ((with_reducible refine cu (fun hc => ?_) (fun hc => ?_)) <;> (try simp only [decide_eq_true_eq, decide_eq_false_iff_not, Bool.not_true, Bool.not_false, Bool.not_eq_true', Bool.not_eq_false'] at hc) <;> (try (exfalso; omega))) | (with_reducible refine bE (cm _) ?_))
  all_goals (refine congrArg (fun b => AV.c (Value.bool b)) ?_; rw [Bool.eq_iff_iff]; unfold qx leL p8; generalize d.getD 0 0 = c0 at *; generalize (Op.bytesLess d _ || d == _) = b; cases b <;> simp <;> omega)
theorem eM (some r : List UInt8) : be some r ≤ r.length := (List.takeWhile_sublist _).length_le
theorem dV : (ByteArray.mk #[65, 66, 67, 68, 69, 70, 71, 72, 73, 74, 75, 76, 77, 78, 79, 80, 81, 82, 83, 84, 85, 86, 87, 88, 89, 90, 97, 98, 99, 100, 101, 102, 103, 104, 105, 106, 107, 108, 109, 110, 111, 112, 113, 114, 115, 116, 117, 118, 119, 120, 121, 122, 95]) = ByteArray.mk lettersL.toArray := rfl
theorem qd : (ByteArray.mk #[65, 66, 67, 68, 69, 70, 71, 72, 73, 74, 75, 76, 77, 78, 79, 80, 81, 82, 83, 84, 85, 86, 87, 88, 89, 90, 97, 98, 99, 100, 101, 102, 103, 104, 105, 106, 107, 108, 109, 110, 111, 112, 113, 114, 115, 116, 117, 118, 119, 120, 121, 122, 95, 48, 49, 50, 51, 52, 53, 54, 55, 56, 57]) = ByteArray.mk wordL.toArray := rfl
theorem iS : (ByteArray.mk #[48, 49, 50, 51, 52, 53, 54, 55, 56, 57]) = ByteArray.mk digitsL.toArray := rfl
end Go.Proofs.YtpkcgdikbjaoaaaDoor
namespace Go.Proofs.YtpkcgdikbjaoaaaDoor
set_option linter.unusedSimpArgs false
set_option linter.unusedVariables false
open Go.RowKit
structure Tok where
  kind : Nat
  at0 : Nat
  text : List UInt8
abbrev fL (t : Tok) : List AV := [.c (.int .i64 (t.kind : Int)), .c (.int .i64 (t.at0 : Int)), bs t.text]
def jt : Tok := ⟨0, 0, []⟩
def opL : List (List UInt8) := [[58, 61], [61, 61], [33, 61], [60, 61], [38, 38], [124, 124], [40], [41], [123], [125], [91], [93], [44], [59], [46], [43], [45], [42], [60], [33], [38]]
theorem ub : tX = opL.map bs := rfl
def opS (r : List UInt8) : Option (List UInt8) := opL.find? (·.isPrefixOf r)
def dd (a : Nat) (r : List UInt8) : Tok × Nat :=
  if 0 < be lettersL r then
    (if 32 < be wordL r then (jt, 2) else (⟨if keyL.contains (r.take (be wordL r)) then 2 else 1, a, r.take (be wordL r)⟩, 0))
  else if 0 < be digitsL r then
    (if !qx (r.take (be digitsL r)) || decide (0 < be lettersL (r.drop (be digitsL r))) then (jt, 5) else (⟨3, a, r.take (be digitsL r)⟩, 0))
  else match opS r with
    | some o => (⟨4, a, o⟩, 0)
    | none => (jt, 10)
theorem ne {α : Type} {p : α → Bool} : ∀ {l : List α} {k : Nat} (hk : k < l.length), (∀ j (hj : j < l.length), j < k → p l[j] = false) → p l[k] = true → l.find? p = some l[k]
  | x :: l, 0, _, _, h => by simp at h; simp [h]
  | x :: l, k + 1, hk, hall, h => by
    have h0 := hall 0 (by simp) (by omega)
    simp only [List.getElem_cons_zero] at h0
    rw [List.find?_cons, h0]
    exact ne (Nat.lt_of_succ_lt_succ hk) (fun j hj hjk => hall (j + 1) (Nat.succ_lt_succ hj) (Nat.succ_lt_succ hjk)) h
theorem qG {α : Type} {p : α → Bool} {l : List α} (h : ∀ j (hj : j < l.length), p l[j] = false) : l.find? p = none := by
  rw [List.find?_eq_none]
  intro x hx
  obtain ⟨j, hj, rfl⟩ := List.getElem_of_mem hx
  rw [h j hj]; simp
theorem fN {l : List UInt8} {a n : Nat} : (l.drop a).take (a + n - a) = (l.drop a).take n := by rw [Nat.add_sub_cancel_left]
def aL : Nat → List Nat
  | 0 => [0, 1]
  | 1 => [0, 1, 4]
  | 2 => [0, 1, 4, 6]
  | 3 => [0, 1, 4]
  | 4 => [0, 1, 4, 6]
  | 5 => [4]
  | 6 => [0, 1, 4, 6]
  | 7 => [4, 7]
  | 8 => [4, 7]
  | 9 => [4, 7]
  | 10 => [0, 1, 4]
  | 11 => [0, 1, 4, 8]
  | 12 => [0, 1, 4, 8]
  | 13 => [4]
  | 14 => [0, 1, 4, 8]
  | 15 => [0, 1, 4]
  | 16 => [0, 1, 4, 67, 68, 69]
  | 17 => [0, 1, 4, 67, 68, 69]
  | 18 => [0, 1, 4, 10, 67, 68, 69]
  | 19 => [1, 4, 10]
  | 20 => [0, 1, 4, 67, 68, 69]
  | 21 => [4]
  | _ => []
set_option maxRecDepth 100000 in
set_option maxHeartbeats 4000000 in
theorem qQ (l : List UInt8) (a : Nat) (ha : a < l.length) (hl : l.length ≤ 4611686018427387904) : AFn Tryd.prog 12 [bs l, .c (.int .i64 (a : Int))] [] (.tup [.agg (fL (dd a (l.drop a)).1), cT (dd a (l.drop a)).2]) [] := by
  have hle : a ≤ l.length := by omega
  have h1 := lM l lettersL nv a hle hl
  unfold dd
  by_cases c1 : 0 < be lettersL (l.drop a)
  · rw [if_pos c1]
    have h2 := lM l wordL pY a hle hl
    have hn := eM wordL (l.drop a)
    have c1' : ((0 : Int) < (be lettersL (l.drop a) : Int)) = True := by simp; omega
    by_cases c2 : 32 < be wordL (l.drop a)
    · rw [if_pos c2]
      have c2' : ((32 : Int) < (be wordL (l.drop a) : Int)) = True := by simp; omega
      refine aM [] Tryd.func12 rfl Tryd.ntmps12 (Nat.le_of_ble_eq_true rfl) (Nat.le_of_ble_eq_true rfl) fun w0 G0 B0 Pr hB0 => ?_
      simp only [aS, aJ, List.cons_append, List.nil_append]
      repeat' (first | (with_reducible refine hY _ ?_; clear hY Y) | ((with_reducible first | refine aD rfl (aN fun K' hK' => ab ?_) | refine hK' _ (ac fun Y hY => ab ?_) | refine ac fun Y hY => ab ?_ | refine ae tk0 aL (ac fun Y hY => ab ?_) | refine ab ?_ | refine av ?_); (try clear hK' K'); (try dsimp only [aop]); try simp only [go_sem, ↓reduceIte, Nat.reduceEqDiff, Nat.reduceLT, Nat.reduceLeDiff, Nat.reduceAdd, Nat.reduceSub, Nat.reduceMul, Nat.reduceBEq, Nat.reduceBNe, Nat.reducePow, Int.reduceToNat, Int.reduceLE, Int.reduceLT, Int.reduceMul, Int.reduceEq, Int.reducePow, Int.reduceAdd, Int.reduceSub, Int.reduceNeg, reduceCtorEq, aL, Tryd.results12, dV, qd, c1', c2']) | (with_reducible first | refine aj ?_ | refine ar ?_ | refine au ?_ | refine aT fun K hK => ?_ | refine aK ?_ | refine bA ?_ | refine aF ?_) | (with_reducible refine hK _ ?_; clear hK K) | ((with_reducible refine al ?_ ?_); (· decide)) | (with_reducible refine aa (h1) ?_) | (with_reducible refine aa (h2) ?_))
      rfl
    · rw [if_neg c2]
      have c2' : ((32 : Int) < (be wordL (l.drop a) : Int)) = False := by simp; omega
      generalize be wordL (l.drop a) = n at *
      rw [List.length_drop] at hn
      have hw1 : IntKind.i64.wrap ((a : Int) + (n : Int)) = ((a + n : Nat) : Int) := by rw [bX (by omega) (by omega)]; omega
      have h3 := tW ((l.drop a).take n)
      by_cases c3 : keyL.contains ((l.drop a).take n) = true
      · rw [c3] at h3
        rw [if_pos c3]
        refine aM [] Tryd.func12 rfl Tryd.ntmps12 (Nat.le_of_ble_eq_true rfl) (Nat.le_of_ble_eq_true rfl) fun w0 G0 B0 Pr hB0 => ?_
        simp only [aS, aJ, List.cons_append, List.nil_append]
        repeat' (first | (with_reducible refine hY _ ?_; clear hY Y) | ((with_reducible first | refine aD rfl (aN fun K' hK' => ab ?_) | refine hK' _ (ac fun Y hY => ab ?_) | refine ac fun Y hY => ab ?_ | refine ae tk0 aL (ac fun Y hY => ab ?_) | refine ab ?_ | refine av ?_); (try clear hK' K'); (try dsimp only [aop]); try simp only [go_sem, ↓reduceIte, Nat.reduceEqDiff, Nat.reduceLT, Nat.reduceLeDiff, Nat.reduceAdd, Nat.reduceSub, Nat.reduceMul, Nat.reduceBEq, Nat.reduceBNe, Nat.reducePow, Int.reduceToNat, Int.reduceLE, Int.reduceLT, Int.reduceMul, Int.reduceEq, Int.reducePow, Int.reduceAdd, Int.reduceSub, Int.reduceNeg, reduceCtorEq, aL, Tryd.results12, dV, qd, c1', c2', hw1, fN]) | (with_reducible first | refine aj ?_ | refine ar ?_ | refine au ?_ | refine aT fun K hK => ?_ | refine aK ?_ | refine aC ?_ | refine bA ?_ | refine aP ?_ | refine aF ?_) | (with_reducible refine hK _ ?_; clear hK K) | ((with_reducible refine al ?_ ?_); (· decide)) | (with_reducible refine bT ?_ ?_; (· (try and_intros) <;> first | omega | assumption | (simp only [List.length_append, List.length_map, List.length_cons, List.length_nil] <;> omega))) | (with_reducible refine aa (h1) ?_) | (with_reducible refine aa (h2) ?_) | (with_reducible refine aa (h3) ?_))
        rfl
      · rw [Bool.eq_false_iff.2 c3] at h3
        rw [if_neg c3]
        refine aM [] Tryd.func12 rfl Tryd.ntmps12 (Nat.le_of_ble_eq_true rfl) (Nat.le_of_ble_eq_true rfl) fun w0 G0 B0 Pr hB0 => ?_
        simp only [aS, aJ, List.cons_append, List.nil_append]
        repeat' (first | (with_reducible refine hY _ ?_; clear hY Y) | ((with_reducible first | refine aD rfl (aN fun K' hK' => ab ?_) | refine hK' _ (ac fun Y hY => ab ?_) | refine ac fun Y hY => ab ?_ | refine ae tk0 aL (ac fun Y hY => ab ?_) | refine ab ?_ | refine av ?_); (try clear hK' K'); (try dsimp only [aop]); try simp only [go_sem, ↓reduceIte, Nat.reduceEqDiff, Nat.reduceLT, Nat.reduceLeDiff, Nat.reduceAdd, Nat.reduceSub, Nat.reduceMul, Nat.reduceBEq, Nat.reduceBNe, Nat.reducePow, Int.reduceToNat, Int.reduceLE, Int.reduceLT, Int.reduceMul, Int.reduceEq, Int.reducePow, Int.reduceAdd, Int.reduceSub, Int.reduceNeg, reduceCtorEq, aL, Tryd.results12, dV, qd, c1', c2', hw1, fN]) | (with_reducible first | refine aj ?_ | refine ar ?_ | refine au ?_ | refine aT fun K hK => ?_ | refine aK ?_ | refine aC ?_ | refine bA ?_ | refine aP ?_ | refine aF ?_) | (with_reducible refine hK _ ?_; clear hK K) | ((with_reducible refine al ?_ ?_); (· decide)) | (with_reducible refine bT ?_ ?_; (· (try and_intros) <;> first | omega | assumption | (simp only [List.length_append, List.length_map, List.length_cons, List.length_nil] <;> omega))) | (with_reducible refine aa (h1) ?_) | (with_reducible refine aa (h2) ?_) | (with_reducible refine aa (h3) ?_))
        rfl
  · rw [if_neg c1]
    have c1' : ((0 : Int) < (be lettersL (l.drop a) : Int)) = False := by simp; omega
    have h2 := lM l digitsL qO a hle hl
    have hn := eM digitsL (l.drop a)
    by_cases c2 : 0 < be digitsL (l.drop a)
    · rw [if_pos c2]
      have c2' : ((0 : Int) < (be digitsL (l.drop a) : Int)) = True := by simp; omega
      generalize be digitsL (l.drop a) = n at *
      rw [List.length_drop] at hn
      have hw1 : IntKind.i64.wrap ((a : Int) + (n : Int)) = ((a + n : Nat) : Int) := by rw [bX (by omega) (by omega)]; omega
      have h3 := px ((l.drop a).take n) (by rw [List.length_take, List.length_drop]; omega)
      have h4 := lM l lettersL nv (a + n) (by omega) hl
      rw [← List.drop_drop] at h4
      by_cases c3 : qx ((l.drop a).take n) = true
      · rw [c3] at h3 ⊢
        by_cases c4 : 0 < be lettersL ((l.drop a).drop n)
        · have c4' : ((0 : Int) < (be lettersL ((l.drop a).drop n) : Int)) = True := eq_true (by omega)
          rw [if_pos (by simp only [Bool.not_true, Bool.false_or, decide_eq_true_eq]; exact c4)]
          refine aM [] Tryd.func12 rfl Tryd.ntmps12 (Nat.le_of_ble_eq_true rfl) (Nat.le_of_ble_eq_true rfl) fun w0 G0 B0 Pr hB0 => ?_
          simp only [aS, aJ, List.cons_append, List.nil_append]
          repeat' (first | (with_reducible refine hY _ ?_; clear hY Y) | ((with_reducible first | refine aD rfl (aN fun K' hK' => ab ?_) | refine hK' _ (ac fun Y hY => ab ?_) | refine bV rfl (ac fun Y hY => ab ?_) | refine ac fun Y hY => ab ?_ | refine aN fun K' hK' => ab ?_ | refine ae tk0 aL (ac fun Y hY => ab ?_) | refine ab ?_ | refine av ?_); (try clear hK' K'); (try dsimp only [aop]); try simp only [go_sem, ↓reduceIte, Nat.reduceEqDiff, Nat.reduceLT, Nat.reduceLeDiff, Nat.reduceAdd, Nat.reduceSub, Nat.reduceMul, Nat.reduceBEq, Nat.reduceBNe, Nat.reducePow, Int.reduceToNat, Int.reduceLE, Int.reduceLT, Int.reduceMul, Int.reduceEq, Int.reducePow, Int.reduceAdd, Int.reduceSub, Int.reduceNeg, reduceCtorEq, aL, Tryd.results12, dV, iS, c1', c2', c4', hw1, fN]) | (with_reducible first | refine aj ?_ | refine bl ?_ | refine ar ?_ | refine au ?_ | refine aT fun K hK => ?_ | refine aK ?_ | refine aC ?_ | refine bA ?_ | refine aP ?_ | refine aF ?_) | (with_reducible refine hK _ ?_; clear hK K) | ((with_reducible first | refine bh ?_ ?_ | refine al ?_ ?_); (· decide)) | (with_reducible refine bT ?_ ?_; (· (try and_intros) <;> first | omega | assumption | (simp only [List.length_append, List.length_map, List.length_cons, List.length_nil] <;> omega))) | (with_reducible refine aa (h1) ?_) | (with_reducible refine aa (h2) ?_) | (with_reducible refine aa (h3) ?_) | (with_reducible refine aa (h4) ?_))
          rfl
        · have c4' : ((0 : Int) < (be lettersL ((l.drop a).drop n) : Int)) = False := eq_false (by omega)
          rw [if_neg (by simp only [Bool.not_true, Bool.false_or, decide_eq_true_eq]; exact c4)]
          refine aM [] Tryd.func12 rfl Tryd.ntmps12 (Nat.le_of_ble_eq_true rfl) (Nat.le_of_ble_eq_true rfl) fun w0 G0 B0 Pr hB0 => ?_
          simp only [aS, aJ, List.cons_append, List.nil_append]
          repeat' (first | (with_reducible refine hY _ ?_; clear hY Y) | ((with_reducible first | refine aD rfl (aN fun K' hK' => ab ?_) | refine hK' _ (ac fun Y hY => ab ?_) | refine bV rfl (ac fun Y hY => ab ?_) | refine ac fun Y hY => ab ?_ | refine aN fun K' hK' => ab ?_ | refine ae tk0 aL (ac fun Y hY => ab ?_) | refine ab ?_ | refine av ?_); (try clear hK' K'); (try dsimp only [aop]); try simp only [go_sem, ↓reduceIte, Nat.reduceEqDiff, Nat.reduceLT, Nat.reduceLeDiff, Nat.reduceAdd, Nat.reduceSub, Nat.reduceMul, Nat.reduceBEq, Nat.reduceBNe, Nat.reducePow, Int.reduceToNat, Int.reduceLE, Int.reduceLT, Int.reduceMul, Int.reduceEq, Int.reducePow, Int.reduceAdd, Int.reduceSub, Int.reduceNeg, reduceCtorEq, aL, Tryd.results12, dV, iS, c1', c2', c4', hw1, fN]) | (with_reducible first | refine aj ?_ | refine bl ?_ | refine ar ?_ | refine au ?_ | refine aT fun K hK => ?_ | refine aK ?_ | refine aC ?_ | refine bA ?_ | refine aP ?_ | refine aF ?_) | (with_reducible refine hK _ ?_; clear hK K) | ((with_reducible first | refine bh ?_ ?_ | refine al ?_ ?_); (· decide)) | (with_reducible refine bT ?_ ?_; (· (try and_intros) <;> first | omega | assumption | (simp only [List.length_append, List.length_map, List.length_cons, List.length_nil] <;> omega))) | (with_reducible refine aa (h1) ?_) | (with_reducible refine aa (h2) ?_) | (with_reducible refine aa (h3) ?_) | (with_reducible refine aa (h4) ?_))
          rfl
      · have c3' := Bool.eq_false_iff.2 c3
        rw [c3'] at h3 ⊢
        rw [if_pos (by simp)]
        refine aM [] Tryd.func12 rfl Tryd.ntmps12 (Nat.le_of_ble_eq_true rfl) (Nat.le_of_ble_eq_true rfl) fun w0 G0 B0 Pr hB0 => ?_
        simp only [aS, aJ, List.cons_append, List.nil_append]
        repeat' (first | (with_reducible refine hY _ ?_; clear hY Y) | ((with_reducible first | refine aD rfl (aN fun K' hK' => ab ?_) | refine hK' _ (ac fun Y hY => ab ?_) | refine bV rfl (ac fun Y hY => ab ?_) | refine ac fun Y hY => ab ?_ | refine ae tk0 aL (ac fun Y hY => ab ?_) | refine ab ?_ | refine av ?_); (try clear hK' K'); (try dsimp only [aop]); try simp only [go_sem, ↓reduceIte, Nat.reduceEqDiff, Nat.reduceLT, Nat.reduceLeDiff, Nat.reduceAdd, Nat.reduceSub, Nat.reduceMul, Nat.reduceBEq, Nat.reduceBNe, Nat.reducePow, Int.reduceToNat, Int.reduceLE, Int.reduceLT, Int.reduceMul, Int.reduceEq, Int.reducePow, Int.reduceAdd, Int.reduceSub, Int.reduceNeg, reduceCtorEq, aL, Tryd.results12, dV, iS, c1', c2', hw1, fN]) | (with_reducible first | refine aj ?_ | refine bW rfl ?_ | refine fa ?_ ?_ | refine ar ?_ | refine au ?_ | refine aT fun K hK => ?_ | refine aK ?_ | refine aC ?_ | refine bA ?_ | refine aP ?_ | refine aF ?_) | (with_reducible refine hK _ ?_; clear hK K) | ((with_reducible first | refine bh ?_ ?_ | refine al ?_ ?_); (· decide)) | (with_reducible refine bT ?_ ?_; (· (try and_intros) <;> first | omega | assumption | (simp only [List.length_append, List.length_map, List.length_cons, List.length_nil] <;> omega))) | (with_reducible refine aa (h1) ?_) | (with_reducible refine aa (h2) ?_) | (with_reducible refine aa (h3) ?_))
        rfl
    · rw [if_neg c2]
      have c2' : ((0 : Int) < (be digitsL (l.drop a) : Int)) = False := by simp; omega
      refine aM [] Tryd.func12 rfl Tryd.ntmps12 (Nat.le_of_ble_eq_true rfl) (Nat.le_of_ble_eq_true rfl) fun w0 G0 B0 Pr hB0 => ?_
      simp only [aS, aJ, List.cons_append, List.nil_append]
      repeat' (first | (with_reducible refine hY _ ?_; clear hY Y) | ((with_reducible first | refine aD rfl (aN fun K' hK' => ab ?_) | refine hK' _ (ac fun Y hY => ab ?_) | refine ac fun Y hY => ab ?_ | refine ae tk0 aL (ac fun Y hY => ab ?_) | refine ab ?_); (try clear hK' K'); (try dsimp only [aop]); try simp only [go_sem, ↓reduceIte, Nat.reduceEqDiff, Nat.reduceLT, Nat.reduceLeDiff, Nat.reduceAdd, Nat.reduceSub, Nat.reduceMul, Nat.reduceBEq, Nat.reduceBNe, Nat.reducePow, Int.reduceToNat, Int.reduceLE, Int.reduceLT, Int.reduceMul, Int.reduceEq, Int.reducePow, Int.reduceAdd, Int.reduceSub, Int.reduceNeg, reduceCtorEq, aL, Tryd.results12, dV, iS, c1', c2']) | (with_reducible first | refine aj ?_ | refine ar ?_ | refine au ?_ | refine aT fun K hK => ?_ | refine aC ?_ | refine ax ?_ | refine aP ?_ | refine bZ ?_) | (with_reducible refine hK _ ?_; clear hK K) | ((with_reducible refine al ?_ ?_); (· decide)) | (with_reducible refine aa (h1) ?_) | (with_reducible refine aa (h2) ?_))
      refine b7 (α := Nat) (fun k => [(0, bs l), (1, .c (.int .i64 (a : Int))), (4, .loc 10004 0), (67, .sl (opL.map bs) 21 .none), (68, .c (.int .i64 21)), (69, .c (.int .i64 (k : Int))), (10004, .bc (fL jt) 29)])
        (fun k => k ≤ 21 ∧ ∀ j (hj : j < opL.length), j < k → opL[j].isPrefixOf (l.drop a) = false) (fun k => 21 - k) 0 [0, 1, 4, 67, 68, 69] ?_ ⟨Nat.zero_le _, fun j _ h => absurd h (by omega)⟩ ?_
      · simp only [go_sem, ↓reduceIte, Nat.reduceEqDiff, Nat.reduceLT, Nat.reduceLeDiff, Nat.reduceAdd, Nat.reduceSub, Nat.reduceMul, Nat.reduceBEq, Nat.reduceBNe, Nat.reducePow, Int.reduceToNat, Int.reduceLE, Int.reduceLT, Int.reduceMul, Int.reduceEq, Int.reducePow, Int.reduceAdd, Int.reduceSub, Int.reduceNeg, reduceCtorEq] <;> rfl
      have hkl : opL.length = 21 := rfl
      rintro k ⟨hk, hall⟩ ih
      clear h1 h2
      by_cases hlt : k < 21
      · have hlt' : ((k : Int) < 21) = True := by simp; omega
        have hkw : IntKind.i64.wrap ((k : Int) + 1) = ((k + 1 : Nat) : Int) := by rw [bX (by omega) (by omega)]; rfl
        have hat := kV (f := bs) (l := opL) (i := k) (by omega)
        have hf : opL[k].isPrefixOf (l.drop a) = true → opS (l.drop a) = some opL[k] := ne (p := fun x : List UInt8 => x.isPrefixOf (l.drop a)) (by omega) hall
        have hce : ∀ j (hj : j < opL.length), j = k → opL[j] = opL[k] := fun j hj e => by subst e; rfl
        generalize opL[k] = o at *
        have h3 := lO (l.drop a) o
        by_cases he : o.isPrefixOf (l.drop a) = true
        · rw [he] at h3
          rw [hf he]
          repeat' (first | (with_reducible refine hY _ ?_; clear hY Y) | ((with_reducible first | refine aD rfl (aN fun K' hK' => ab ?_) | refine hK' _ (ac fun Y hY => ab ?_) | refine ac fun Y hY => ab ?_ | refine ae tk0 aL (ac fun Y hY => ab ?_) | refine ab ?_ | refine av ?_); (try clear hK' K'); (try dsimp only [aop]); try simp only [go_sem, ↓reduceIte, Nat.reduceEqDiff, Nat.reduceLT, Nat.reduceLeDiff, Nat.reduceAdd, Nat.reduceSub, Nat.reduceMul, Nat.reduceBEq, Nat.reduceBNe, Nat.reducePow, Int.reduceToNat, Int.reduceLE, Int.reduceLT, Int.reduceMul, Int.reduceEq, Int.reducePow, Int.reduceAdd, Int.reduceSub, Int.reduceNeg, reduceCtorEq, aL, Tryd.results12, hlt', hat]) | (with_reducible first | refine aj ?_ | refine ar ?_ | refine au ?_ | refine aT fun K hK => ?_ | refine aK ?_ | refine bA ?_ | refine b6 ?_ | refine ax ?_ | refine aP ?_ | refine aF ?_) | (with_reducible refine hK _ ?_; clear hK K) | ((with_reducible refine al ?_ ?_); (· decide)) | (with_reducible refine bT ?_ ?_; (· (try and_intros) <;> first | omega | assumption | (simp only [List.length_append, List.length_map, List.length_cons, List.length_nil] <;> omega))) | (with_reducible refine aa (h3) ?_))
          rfl
        · have he' := Bool.eq_false_iff.2 he
          rw [he'] at h3
          repeat' (first | (with_reducible refine hY _ ?_; clear hY Y) | ((with_reducible first | refine aD rfl (aN fun K' hK' => ab ?_) | refine hK' _ (ac fun Y hY => ab ?_) | refine ac fun Y hY => ab ?_ | refine ae tk0 aL (ac fun Y hY => ab ?_) | refine ab ?_); (try clear hK' K'); (try dsimp only [aop]); try simp only [go_sem, ↓reduceIte, Nat.reduceEqDiff, Nat.reduceLT, Nat.reduceLeDiff, Nat.reduceAdd, Nat.reduceSub, Nat.reduceMul, Nat.reduceBEq, Nat.reduceBNe, Nat.reducePow, Int.reduceToNat, Int.reduceLE, Int.reduceLT, Int.reduceMul, Int.reduceEq, Int.reducePow, Int.reduceAdd, Int.reduceSub, Int.reduceNeg, reduceCtorEq, aL, Tryd.results12, hlt', hat, hkw]) | (with_reducible first | refine aj ?_ | refine ar ?_ | refine au ?_ | refine aT fun K hK => ?_ | refine aK ?_ | refine aC ?_ | refine a8 ?_ | refine ax ?_ | refine aP ?_) | (with_reducible refine hK _ ?_; clear hK K) | ((with_reducible refine al ?_ ?_); (· decide)) | (with_reducible refine bT ?_ ?_; (· (try and_intros) <;> first | omega | assumption | (simp only [List.length_append, List.length_map, List.length_cons, List.length_nil] <;> omega))) | (with_reducible refine aa (h3) ?_))
          refine bI [0, 1, 4, 67, 68, 69] (by simp only [go_sem, ↓reduceIte, Nat.reduceEqDiff, Nat.reduceLT, Nat.reduceLeDiff, Nat.reduceAdd, Nat.reduceSub, Nat.reduceMul, Nat.reduceBEq, Nat.reduceBNe, Nat.reducePow, Int.reduceToNat, Int.reduceLE, Int.reduceLT, Int.reduceMul, Int.reduceEq, Int.reducePow, Int.reduceAdd, Int.reduceSub, Int.reduceNeg, reduceCtorEq]; exact rfl) ?_
          exact ih (k + 1) ⟨by omega, fun j hj hjk => by
            by_cases e : j = k
            · rw [hce j hj e]; exact he'
            · exact hall j hj (by omega)⟩ (by omega)
      · have hlt' : ((k : Int) < 21) = False := by simp; omega
        rw [show opS (l.drop a) = none from qG (p := fun x : List UInt8 => x.isPrefixOf (l.drop a)) fun j hj => hall j hj (by omega)]
        repeat' (first | (with_reducible refine hY _ ?_; clear hY Y) | ((with_reducible first | refine aD rfl (aN fun K' hK' => ab ?_) | refine hK' _ (ac fun Y hY => ab ?_) | refine ac fun Y hY => ab ?_ | refine ae tk0 aL (ac fun Y hY => ab ?_) | refine ab ?_ | refine av ?_); (try clear hK' K'); (try dsimp only [aop]); try simp only [go_sem, ↓reduceIte, Nat.reduceEqDiff, Nat.reduceLT, Nat.reduceLeDiff, Nat.reduceAdd, Nat.reduceSub, Nat.reduceMul, Nat.reduceBEq, Nat.reduceBNe, Nat.reducePow, Int.reduceToNat, Int.reduceLE, Int.reduceLT, Int.reduceMul, Int.reduceEq, Int.reducePow, Int.reduceAdd, Int.reduceSub, Int.reduceNeg, reduceCtorEq, aL, Tryd.results12, hlt']) | (with_reducible first | refine aj ?_ | refine ar ?_ | refine au ?_ | refine aT fun K hK => ?_ | refine aC ?_ | refine b3 ?_ | refine bG ?_ | refine aF ?_ | refine bH ?_) | (with_reducible refine hK _ ?_; clear hK K) | ((with_reducible refine al ?_ ?_); (· decide)))
        rfl
end Go.Proofs.YtpkcgdikbjaoaaaDoor
