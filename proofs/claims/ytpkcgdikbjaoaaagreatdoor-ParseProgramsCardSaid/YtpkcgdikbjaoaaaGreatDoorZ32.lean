/- The document's operations, and Scan, in K. -/
import Derived.Test.YtpkcgdikbjaoaaaGreatDoorZ21
namespace Go.Proofs.YtpkcgdikbjaoaaaGreatDoor
set_option linter.unusedSimpArgs false
set_option linter.unusedVariables false
open Go.RowKit
def oneL : List UInt8 := [40, 41, 123, 125, 91, 93, 44, 59, 46, 43, 45, 42, 60, 33, 38]
theorem qo : (ByteArray.mk #[40, 41, 123, 125, 91, 93, 44, 59, 46, 43, 45, 42, 60, 33, 38]) = ByteArray.mk oneL.toArray := rfl
theorem vm : ∀ k (h : k < oneL.length), opL[6 + k]'(by have : oneL.length = 15 := rfl; have : opL.length = 21 := rfl; omega) = [oneL[k]] := by decide
theorem rP : ∀ k (h : k < 6), (opL[k]'(by have : opL.length = 21 := rfl; omega)).length = 2 := by decide
theorem oU {o r : List UInt8} (ho : o.length = 2) : o.isPrefixOf r = (r.take 2 == o) := by
  rw [Bool.eq_iff_iff, List.isPrefixOf_iff_prefix, List.prefix_iff_eq_take, ho, beq_iff_eq]
  exact eq_comm
def aJ : Nat → List Nat
  | 0 => [0, 1]
  | 1 => [0, 1]
  | 2 => [0, 1]
  | 3 => [0, 1, 5]
  | 4 => [0, 1, 5, 6]
  | 5 => [0, 1, 5, 6]
  | 6 => [0, 1, 5, 6]
  | 7 => [5, 6]
  | 8 => [0, 1]
  | 9 => [0, 1, 7]
  | 10 => [0, 1, 7, 8]
  | 11 => [0, 1, 7, 8]
  | 12 => [0, 1, 7, 8]
  | 13 => [7, 8]
  | 14 => []
  | _ => []
set_option maxRecDepth 100000 in
set_option maxHeartbeats 4000000 in
theorem zR (l : List UInt8) (a : Nat) (ha : a < l.length) (hl : l.length ≤ 4611686018427387904) : AFn Tryz.prog 36 [bs l, .c (.int .i64 (a : Int))] [] (bs ((opS (l.drop a)).getD [])) [] := by
  have hw1 : IntKind.i64.wrap ((a : Int) + 1) = ((a + 1 : Nat) : Int) := by rw [bO (by omega) (by omega)]; rfl
  have hw2 : IntKind.i64.wrap ((a : Int) + 2) = ((a + 2 : Nat) : Int) := by rw [bO (by omega) (by omega)]; rfl
  have hgc := gp ha
  have hdr := List.drop_eq_getElem_cons ha
  have hkl : opL.length = 21 := rfl
  have hol : oneL.length = 15 := rfl
  have hkt : (opL.take 6).length = 6 := rfl
  generalize l[a] = c at *
  by_cases c1 : a + 1 < l.length
  · have c1' : (((a + 1 : Nat) : Int) < (l.length : Int)) = True := eq_true (by omega)
    have hsl2 : (l.drop a).take (a + 2 - a) = (l.drop a).take 2 := by rw [Nat.add_sub_cancel_left]
    refine aK [] Tryz.func36 rfl Tryz.ntmps36 (Nat.le_of_ble_eq_true rfl) (Nat.le_of_ble_eq_true rfl) fun w0 G0 B0 Pr hB0 => ?_
    simp only [aQ, aI, List.cons_append, List.nil_append]
    repeat' (first | (with_reducible refine hY _ ?_; clear hY Y) | ((with_reducible first | refine av rfl (aD fun K' hK' => ab ?_) | refine hK' _ (ac fun Y hY => ab ?_) | refine ac fun Y hY => ab ?_ | refine ae tk0 aJ (ac fun Y hY => ab ?_)); (try clear hK' K'); (try dsimp only [aop]); try simp only [go_sem, ↓reduceIte, Nat.reduceEqDiff, Nat.reduceLT, Nat.reduceLeDiff, Nat.reduceAdd, Nat.reduceSub, Nat.reduceMul, Nat.reduceBEq, Nat.reduceBNe, Nat.reducePow, Int.reduceToNat, Int.reduceLE, Int.reduceLT, Int.reduceMul, Int.reduceEq, Int.reducePow, Int.reduceAdd, Int.reduceSub, Int.reduceNeg, reduceCtorEq, aJ, Tryz.results36, hw1, c1']) | (with_reducible first | refine ai ?_ | refine al ?_ | refine am ?_ | refine aL fun K hK => ?_ | refine ax ?_ | refine aq ?_ | refine bx ?_) | (with_reducible refine hK _ ?_; clear hK K) | ((with_reducible refine ah ?_ ?_); (· decide)))
    refine cw (α := Nat) (fun k => [(0, bs l), (1, .c (.int .i64 (a : Int))), (5, .sl ((opL.take 6).map bs) 6 .full), (6, .c (.int .i64 (k : Int)))])
      (fun k => k ≤ 6 ∧ ∀ j (hj : j < opL.length), j < k → opL[j].isPrefixOf (l.drop a) = false) (fun k => 6 - k) 0 [0, 1, 5, 6] ?_ ⟨Nat.zero_le _, fun j _ h => absurd h (by omega)⟩ ?_
    · simp only [go_sem, ↓reduceIte, Nat.reduceEqDiff, Nat.reduceLT, Nat.reduceLeDiff, Nat.reduceAdd, Nat.reduceSub, Nat.reduceMul, Nat.reduceBEq, Nat.reduceBNe, Nat.reducePow, Int.reduceToNat, Int.reduceLE, Int.reduceLT, Int.reduceMul, Int.reduceEq, Int.reducePow, Int.reduceAdd, Int.reduceSub, Int.reduceNeg, reduceCtorEq] <;> rfl
    rintro k ⟨hk, hall⟩ ih
    by_cases hlt : k < 6
    · have hlt' : ((k : Int) < ((6 : Nat) : Int)) = True := eq_true (by omega)
      have hkw : IntKind.i64.wrap ((k : Int) + 1) = ((k + 1 : Nat) : Int) := by rw [bO (by omega) (by omega)]; rfl
      have hat := lj (f := bs) (l := opL.take 6) (i := k) (by rw [List.length_take]; omega)
      rw [List.getElem_take] at hat
      have hf : opL[k].isPrefixOf (l.drop a) = true → opS (l.drop a) = some opL[k] := kw (p := fun x : List UInt8 => x.isPrefixOf (l.drop a)) (by omega) hall
      have hko : k < opL.length := by omega
      have hce : ∀ j (hj : j < opL.length), j = k → opL[j] = opL[k]'hko := fun j hj e => by subst e; rfl
      have h2 := rP k hlt
      generalize opL[k] = o at *
      rw [oU h2] at hf
      by_cases he : ((l.drop a).take 2 == o) = true
      · rw [hf he]
        repeat' (first | (with_reducible refine hY _ ?_; clear hY Y) | ((with_reducible first | refine av rfl (aD fun K' hK' => ab ?_) | refine hK' _ (ac fun Y hY => ab ?_) | refine ac fun Y hY => ab ?_ | refine ae tk0 aJ (ac fun Y hY => ab ?_) | refine ab ?_ | refine ap ?_ | refine bY rfl (bI fun K' hK' => ab ?_) | refine hK' _ _ (ac fun Y hY => ab ?_)); (try clear hK' K'); (try dsimp only [aop]); try simp only [go_sem, ↓reduceIte, Nat.reduceEqDiff, Nat.reduceLT, Nat.reduceLeDiff, Nat.reduceAdd, Nat.reduceSub, Nat.reduceMul, Nat.reduceBEq, Nat.reduceBNe, Nat.reducePow, Int.reduceToNat, Int.reduceLE, Int.reduceLT, Int.reduceMul, Int.reduceEq, Int.reducePow, Int.reduceAdd, Int.reduceSub, Int.reduceNeg, reduceCtorEq, aJ, Tryz.results36, hlt', hat, hkt, hw2, hsl2, he]) | (with_reducible first | refine ai ?_ | refine al ?_ | refine am ?_ | refine aL fun K hK => ?_ | refine ax ?_ | refine bg ?_ | refine bL ?_ | refine aq ?_ | refine aC ?_ | refine az ?_ | refine bl ?_ | refine dq fun K hK => ?_) | (with_reducible refine hK _ ?_; clear hK K) | (with_reducible refine hK _ _ ?_ ?_; (· kernel_rfl); clear hK K) | ((with_reducible refine ah ?_ ?_); (· decide)) | (with_reducible refine bm tk0 aJ ?_ ?_; (· kernel_rfl)) | (with_reducible refine bQ ?_ ?_; (· (try and_intros) <;> first | omega | assumption | (simp only [List.length_append, List.length_map, List.length_cons, List.length_nil] <;> omega))) | (with_reducible refine be (aU _) ?_))
        rfl
      · have he' := Bool.eq_false_iff.2 he
        repeat' (first | (with_reducible refine hY _ ?_; clear hY Y) | ((with_reducible first | refine av rfl (aD fun K' hK' => ab ?_) | refine hK' _ (ac fun Y hY => ab ?_) | refine ac fun Y hY => ab ?_ | refine ae tk0 aJ (ac fun Y hY => ab ?_) | refine ab ?_ | refine bY rfl (bI fun K' hK' => ab ?_) | refine hK' _ _ (ac fun Y hY => ab ?_)); (try clear hK' K'); (try dsimp only [aop]); try simp only [go_sem, ↓reduceIte, Nat.reduceEqDiff, Nat.reduceLT, Nat.reduceLeDiff, Nat.reduceAdd, Nat.reduceSub, Nat.reduceMul, Nat.reduceBEq, Nat.reduceBNe, Nat.reducePow, Int.reduceToNat, Int.reduceLE, Int.reduceLT, Int.reduceMul, Int.reduceEq, Int.reducePow, Int.reduceAdd, Int.reduceSub, Int.reduceNeg, reduceCtorEq, aJ, Tryz.results36, hlt', hat, hkt, hw2, hsl2, hkw, he']) | (with_reducible first | refine ai ?_ | refine al ?_ | refine am ?_ | refine aL fun K hK => ?_ | refine ax ?_ | refine ar ?_ | refine aO ?_ | refine aq ?_ | refine aC ?_ | refine bl ?_ | refine dq fun K hK => ?_) | (with_reducible refine hK _ ?_; clear hK K) | (with_reducible refine hK _ _ ?_ ?_; (· kernel_rfl); clear hK K) | ((with_reducible refine ah ?_ ?_); (· decide)) | (with_reducible refine bm tk0 aJ ?_ ?_; (· kernel_rfl)) | (with_reducible refine bQ ?_ ?_; (· (try and_intros) <;> first | omega | assumption | (simp only [List.length_append, List.length_map, List.length_cons, List.length_nil] <;> omega))) | (with_reducible refine be (aU _) ?_))
        refine bA [0, 1, 5, 6] (by simp only [go_sem, ↓reduceIte, Nat.reduceEqDiff, Nat.reduceLT, Nat.reduceLeDiff, Nat.reduceAdd, Nat.reduceSub, Nat.reduceMul, Nat.reduceBEq, Nat.reduceBNe, Nat.reducePow, Int.reduceToNat, Int.reduceLE, Int.reduceLT, Int.reduceMul, Int.reduceEq, Int.reducePow, Int.reduceAdd, Int.reduceSub, Int.reduceNeg, reduceCtorEq]; exact rfl) ?_
        exact ih (k + 1) ⟨by omega, fun j hj hjk => by
          by_cases e : j = k
          · rw [hce j hj e, oU h2]; exact he'
          · exact hall j hj (by omega)⟩ (by omega)
    · have hlt' : ((k : Int) < ((6 : Nat) : Int)) = False := eq_false (by omega)
      obtain rfl : k = 6 := by omega
      have hall6 : ∀ j (hj : j < opL.length), j < 6 + 0 → opL[j].isPrefixOf (l.drop a) = false := hall
      clear hall ih
      repeat' (first | (with_reducible refine hY _ ?_; clear hY Y) | ((with_reducible first | refine av rfl (aD fun K' hK' => ab ?_) | refine hK' _ (ac fun Y hY => ab ?_) | refine ac fun Y hY => ab ?_ | refine ae tk0 aJ (ac fun Y hY => ab ?_)); (try clear hK' K'); (try dsimp only [aop]); try simp only [go_sem, ↓reduceIte, Nat.reduceEqDiff, Nat.reduceLT, Nat.reduceLeDiff, Nat.reduceAdd, Nat.reduceSub, Nat.reduceMul, Nat.reduceBEq, Nat.reduceBNe, Nat.reducePow, Int.reduceToNat, Int.reduceLE, Int.reduceLT, Int.reduceMul, Int.reduceEq, Int.reducePow, Int.reduceAdd, Int.reduceSub, Int.reduceNeg, reduceCtorEq, aJ, Tryz.results36, hlt', qo]) | (with_reducible first | refine ai ?_ | refine al ?_ | refine am ?_ | refine aL fun K hK => ?_ | refine ar ?_ | refine bN ?_ | refine bo ?_ | refine aq ?_ | refine bq ?_ | refine bx ?_) | (with_reducible refine hK _ ?_; clear hK K) | ((with_reducible refine ah ?_ ?_); (· decide)))
      refine cw (α := Nat) (fun k => [(0, bs l), (1, .c (.int .i64 (a : Int))), (7, bs oneL), (8, .c (.int .i64 (k : Int)))])
        (fun k => k ≤ 15 ∧ ∀ j (hj : j < opL.length), j < 6 + k → opL[j].isPrefixOf (l.drop a) = false) (fun k => 15 - k) 0 [0, 1, 7, 8] ?_ ⟨Nat.zero_le _, hall6⟩ ?_
      · simp only [go_sem, ↓reduceIte, Nat.reduceEqDiff, Nat.reduceLT, Nat.reduceLeDiff, Nat.reduceAdd, Nat.reduceSub, Nat.reduceMul, Nat.reduceBEq, Nat.reduceBNe, Nat.reducePow, Int.reduceToNat, Int.reduceLE, Int.reduceLT, Int.reduceMul, Int.reduceEq, Int.reducePow, Int.reduceAdd, Int.reduceSub, Int.reduceNeg, reduceCtorEq] <;> rfl
      rintro k ⟨hk, hall⟩ ih
      by_cases hlt : k < 15
      · have hlt' : ((k : Int) < ((15 : Nat) : Int)) = True := eq_true (by omega)
        have hkw : IntKind.i64.wrap ((k : Int) + 1) = ((k + 1 : Nat) : Int) := by rw [bO (by omega) (by omega)]; rfl
        have h1k := vm k (by omega)
        have hat := gp (l := oneL) (i := k) (by omega)
        have hf : opL[6 + k].isPrefixOf (l.drop a) = true → opS (l.drop a) = some opL[6 + k] := kw (p := fun x : List UInt8 => x.isPrefixOf (l.drop a)) (by omega) hall
        have hsl : (oneL.drop k).take (k + 1 - k) = [oneL[k]] := by rw [Nat.add_sub_cancel_left, List.drop_eq_getElem_cons (by omega)]; rfl
        have hce : ∀ j (hj : j < opL.length), j = 6 + k → opL[j] = [oneL[k]] := fun j hj e => by subst e; exact h1k
        rw [h1k] at hf
        generalize oneL[k] = d at *
        have hpre : [d].isPrefixOf (l.drop a) = (d == c) := by rw [hdr]; exact Bool.and_true _
        rw [hpre] at hf
        by_cases he : c = d
        · subst he
          rw [hf (by simp)]
          repeat' (first | (with_reducible refine hY _ ?_; clear hY Y) | ((with_reducible first | refine av rfl (aD fun K' hK' => ab ?_) | refine hK' _ (ac fun Y hY => ab ?_) | refine ac fun Y hY => ab ?_ | refine ae tk0 aJ (ac fun Y hY => ab ?_) | refine ab ?_ | refine ap ?_ | refine bY rfl (bI fun K' hK' => ab ?_) | refine hK' _ _ (ac fun Y hY => ab ?_)); (try clear hK' K'); (try dsimp only [aop]); try simp only [go_sem, ↓reduceIte, Nat.reduceEqDiff, Nat.reduceLT, Nat.reduceLeDiff, Nat.reduceAdd, Nat.reduceSub, Nat.reduceMul, Nat.reduceBEq, Nat.reduceBNe, Nat.reducePow, Int.reduceToNat, Int.reduceLE, Int.reduceLT, Int.reduceMul, Int.reduceEq, Int.reducePow, Int.reduceAdd, Int.reduceSub, Int.reduceNeg, reduceCtorEq, aJ, Tryz.results36, hlt', hat, hgc, hsl, hkw, hol, qo]) | (with_reducible first | refine ai ?_ | refine al ?_ | refine am ?_ | refine aL fun K hK => ?_ | refine ax ?_ | refine bg ?_ | refine bL ?_ | refine aq ?_ | refine aC ?_ | refine az ?_ | refine bl ?_ | refine dq fun K hK => ?_) | (with_reducible refine hK _ ?_; clear hK K) | (with_reducible refine hK _ _ ?_ ?_; (· kernel_rfl); clear hK K) | ((with_reducible refine ah ?_ ?_); (· decide)) | (with_reducible refine bm tk0 aJ ?_ ?_; (· kernel_rfl)) | (with_reducible refine bQ ?_ ?_; (· (try and_intros) <;> first | omega | assumption | (simp only [List.length_append, List.length_map, List.length_cons, List.length_nil] <;> omega))))
          rfl
        · have he' : ((c.toNat : Int) = (d.toNat : Int)) = False := eq_false fun e => he (UInt8.toNat_inj.1 (by omega))
          repeat' (first | (with_reducible refine hY _ ?_; clear hY Y) | ((with_reducible first | refine av rfl (aD fun K' hK' => ab ?_) | refine hK' _ (ac fun Y hY => ab ?_) | refine ac fun Y hY => ab ?_ | refine ae tk0 aJ (ac fun Y hY => ab ?_) | refine bY rfl (bI fun K' hK' => ab ?_) | refine hK' _ _ (ac fun Y hY => ab ?_)); (try clear hK' K'); (try dsimp only [aop]); try simp only [go_sem, ↓reduceIte, Nat.reduceEqDiff, Nat.reduceLT, Nat.reduceLeDiff, Nat.reduceAdd, Nat.reduceSub, Nat.reduceMul, Nat.reduceBEq, Nat.reduceBNe, Nat.reducePow, Int.reduceToNat, Int.reduceLE, Int.reduceLT, Int.reduceMul, Int.reduceEq, Int.reducePow, Int.reduceAdd, Int.reduceSub, Int.reduceNeg, reduceCtorEq, aJ, Tryz.results36, hlt', hat, hgc, hsl, hkw, he', hol, qo]) | (with_reducible first | refine ai ?_ | refine al ?_ | refine am ?_ | refine aL fun K hK => ?_ | refine ax ?_ | refine ar ?_ | refine aO ?_ | refine aq ?_ | refine aC ?_ | refine bl ?_ | refine dq fun K hK => ?_) | (with_reducible refine hK _ ?_; clear hK K) | (with_reducible refine hK _ _ ?_ ?_; (· kernel_rfl); clear hK K) | ((with_reducible refine ah ?_ ?_); (· decide)) | (with_reducible refine bm tk0 aJ ?_ ?_; (· kernel_rfl)) | (with_reducible refine bQ ?_ ?_; (· (try and_intros) <;> first | omega | assumption | (simp only [List.length_append, List.length_map, List.length_cons, List.length_nil] <;> omega))))
          refine bA [0, 1, 7, 8] (by simp only [go_sem, ↓reduceIte, Nat.reduceEqDiff, Nat.reduceLT, Nat.reduceLeDiff, Nat.reduceAdd, Nat.reduceSub, Nat.reduceMul, Nat.reduceBEq, Nat.reduceBNe, Nat.reducePow, Int.reduceToNat, Int.reduceLE, Int.reduceLT, Int.reduceMul, Int.reduceEq, Int.reducePow, Int.reduceAdd, Int.reduceSub, Int.reduceNeg, reduceCtorEq]; exact rfl) ?_
          exact ih (k + 1) ⟨by omega, fun j hj hjk => by
            by_cases e : j = 6 + k
            · rw [hce j hj e, hpre]; simpa using fun e => he e.symm
            · exact hall j hj (by omega)⟩ (by omega)
      · have hlt' : ((k : Int) < ((15 : Nat) : Int)) = False := eq_false (by omega)
        rw [show opS (l.drop a) = none from pf (p := fun x : List UInt8 => x.isPrefixOf (l.drop a)) fun j hj => hall j hj (by omega)]
        repeat' (first | (with_reducible refine hY _ ?_; clear hY Y) | ((with_reducible first | refine av rfl (aD fun K' hK' => ab ?_) | refine hK' _ (ac fun Y hY => ab ?_) | refine ac fun Y hY => ab ?_ | refine ae tk0 aJ (ac fun Y hY => ab ?_) | refine ab ?_ | refine ap ?_); (try clear hK' K'); (try dsimp only [aop]); try simp only [go_sem, ↓reduceIte, Nat.reduceEqDiff, Nat.reduceLT, Nat.reduceLeDiff, Nat.reduceAdd, Nat.reduceSub, Nat.reduceMul, Nat.reduceBEq, Nat.reduceBNe, Nat.reducePow, Int.reduceToNat, Int.reduceLE, Int.reduceLT, Int.reduceMul, Int.reduceEq, Int.reducePow, Int.reduceAdd, Int.reduceSub, Int.reduceNeg, reduceCtorEq, aJ, Tryz.results36, hlt', hol, qo]) | (with_reducible first | refine ai ?_ | refine al ?_ | refine am ?_ | refine aL fun K hK => ?_ | refine ar ?_ | refine bN ?_ | refine bo ?_ | refine az ?_ | refine bq ?_) | (with_reducible refine hK _ ?_; clear hK K) | ((with_reducible refine ah ?_ ?_); (· decide)))
        rfl
  · have c1' : (((a + 1 : Nat) : Int) < (l.length : Int)) = False := eq_false (by omega)
    have hall6 : ∀ j (hj : j < opL.length), j < 6 + 0 → opL[j].isPrefixOf (l.drop a) = false := fun j hj h6 => by
      rw [oU (rP j (by omega))]
      have hlen : ((l.drop a).take 2).length = 1 := by rw [List.length_take, List.length_drop]; omega
      have h2 := rP j (by omega)
      rw [beq_eq_false_iff_ne]
      intro e
      rw [e] at hlen; omega
    refine aK [] Tryz.func36 rfl Tryz.ntmps36 (Nat.le_of_ble_eq_true rfl) (Nat.le_of_ble_eq_true rfl) fun w0 G0 B0 Pr hB0 => ?_
    simp only [aQ, aI, List.cons_append, List.nil_append]
    repeat' (first | (with_reducible refine hY _ ?_; clear hY Y) | ((with_reducible first | refine av rfl (aD fun K' hK' => ab ?_) | refine hK' _ (ac fun Y hY => ab ?_) | refine ac fun Y hY => ab ?_ | refine ae tk0 aJ (ac fun Y hY => ab ?_)); (try clear hK' K'); (try dsimp only [aop]); try simp only [go_sem, ↓reduceIte, Nat.reduceEqDiff, Nat.reduceLT, Nat.reduceLeDiff, Nat.reduceAdd, Nat.reduceSub, Nat.reduceMul, Nat.reduceBEq, Nat.reduceBNe, Nat.reducePow, Int.reduceToNat, Int.reduceLE, Int.reduceLT, Int.reduceMul, Int.reduceEq, Int.reducePow, Int.reduceAdd, Int.reduceSub, Int.reduceNeg, reduceCtorEq, aJ, Tryz.results36, hw1, c1', qo]) | (with_reducible first | refine ai ?_ | refine al ?_ | refine am ?_ | refine aL fun K hK => ?_ | refine ar ?_ | refine aq ?_ | refine aC ?_ | refine bx ?_) | (with_reducible refine hK _ ?_; clear hK K) | ((with_reducible refine ah ?_ ?_); (· decide)))
    refine cw (α := Nat) (fun k => [(0, bs l), (1, .c (.int .i64 (a : Int))), (7, bs oneL), (8, .c (.int .i64 (k : Int)))])
      (fun k => k ≤ 15 ∧ ∀ j (hj : j < opL.length), j < 6 + k → opL[j].isPrefixOf (l.drop a) = false) (fun k => 15 - k) 0 [0, 1, 7, 8] ?_ ⟨Nat.zero_le _, hall6⟩ ?_
    · simp only [go_sem, ↓reduceIte, Nat.reduceEqDiff, Nat.reduceLT, Nat.reduceLeDiff, Nat.reduceAdd, Nat.reduceSub, Nat.reduceMul, Nat.reduceBEq, Nat.reduceBNe, Nat.reducePow, Int.reduceToNat, Int.reduceLE, Int.reduceLT, Int.reduceMul, Int.reduceEq, Int.reducePow, Int.reduceAdd, Int.reduceSub, Int.reduceNeg, reduceCtorEq] <;> rfl
    rintro k ⟨hk, hall⟩ ih
    by_cases hlt : k < 15
    · have hlt' : ((k : Int) < ((15 : Nat) : Int)) = True := eq_true (by omega)
      have hkw : IntKind.i64.wrap ((k : Int) + 1) = ((k + 1 : Nat) : Int) := by rw [bO (by omega) (by omega)]; rfl
      have h1k := vm k (by omega)
      have hat := gp (l := oneL) (i := k) (by omega)
      have hf : opL[6 + k].isPrefixOf (l.drop a) = true → opS (l.drop a) = some opL[6 + k] := kw (p := fun x : List UInt8 => x.isPrefixOf (l.drop a)) (by omega) hall
      have hsl : (oneL.drop k).take (k + 1 - k) = [oneL[k]] := by rw [Nat.add_sub_cancel_left, List.drop_eq_getElem_cons (by omega)]; rfl
      have hce : ∀ j (hj : j < opL.length), j = 6 + k → opL[j] = [oneL[k]] := fun j hj e => by subst e; exact h1k
      rw [h1k] at hf
      generalize oneL[k] = d at *
      have hpre : [d].isPrefixOf (l.drop a) = (d == c) := by rw [hdr]; exact Bool.and_true _
      rw [hpre] at hf
      by_cases he : c = d
      · subst he
        rw [hf (by simp)]
        repeat' (first | (with_reducible refine hY _ ?_; clear hY Y) | ((with_reducible first | refine av rfl (aD fun K' hK' => ab ?_) | refine hK' _ (ac fun Y hY => ab ?_) | refine ac fun Y hY => ab ?_ | refine ae tk0 aJ (ac fun Y hY => ab ?_) | refine ab ?_ | refine ap ?_ | refine bY rfl (bI fun K' hK' => ab ?_) | refine hK' _ _ (ac fun Y hY => ab ?_)); (try clear hK' K'); (try dsimp only [aop]); try simp only [go_sem, ↓reduceIte, Nat.reduceEqDiff, Nat.reduceLT, Nat.reduceLeDiff, Nat.reduceAdd, Nat.reduceSub, Nat.reduceMul, Nat.reduceBEq, Nat.reduceBNe, Nat.reducePow, Int.reduceToNat, Int.reduceLE, Int.reduceLT, Int.reduceMul, Int.reduceEq, Int.reducePow, Int.reduceAdd, Int.reduceSub, Int.reduceNeg, reduceCtorEq, aJ, Tryz.results36, hlt', hat, hgc, hsl, hkw, hol, qo]) | (with_reducible first | refine ai ?_ | refine al ?_ | refine am ?_ | refine aL fun K hK => ?_ | refine ax ?_ | refine bg ?_ | refine bL ?_ | refine aq ?_ | refine aC ?_ | refine az ?_ | refine bl ?_ | refine dq fun K hK => ?_) | (with_reducible refine hK _ ?_; clear hK K) | (with_reducible refine hK _ _ ?_ ?_; (· kernel_rfl); clear hK K) | ((with_reducible refine ah ?_ ?_); (· decide)) | (with_reducible refine bm tk0 aJ ?_ ?_; (· kernel_rfl)) | (with_reducible refine bQ ?_ ?_; (· (try and_intros) <;> first | omega | assumption | (simp only [List.length_append, List.length_map, List.length_cons, List.length_nil] <;> omega))))
        rfl
      · have he' : ((c.toNat : Int) = (d.toNat : Int)) = False := eq_false fun e => he (UInt8.toNat_inj.1 (by omega))
        repeat' (first | (with_reducible refine hY _ ?_; clear hY Y) | ((with_reducible first | refine av rfl (aD fun K' hK' => ab ?_) | refine hK' _ (ac fun Y hY => ab ?_) | refine ac fun Y hY => ab ?_ | refine ae tk0 aJ (ac fun Y hY => ab ?_) | refine bY rfl (bI fun K' hK' => ab ?_) | refine hK' _ _ (ac fun Y hY => ab ?_)); (try clear hK' K'); (try dsimp only [aop]); try simp only [go_sem, ↓reduceIte, Nat.reduceEqDiff, Nat.reduceLT, Nat.reduceLeDiff, Nat.reduceAdd, Nat.reduceSub, Nat.reduceMul, Nat.reduceBEq, Nat.reduceBNe, Nat.reducePow, Int.reduceToNat, Int.reduceLE, Int.reduceLT, Int.reduceMul, Int.reduceEq, Int.reducePow, Int.reduceAdd, Int.reduceSub, Int.reduceNeg, reduceCtorEq, aJ, Tryz.results36, hlt', hat, hgc, hsl, hkw, he', hol, qo]) | (with_reducible first | refine ai ?_ | refine al ?_ | refine am ?_ | refine aL fun K hK => ?_ | refine ax ?_ | refine ar ?_ | refine aO ?_ | refine aq ?_ | refine aC ?_ | refine bl ?_ | refine dq fun K hK => ?_) | (with_reducible refine hK _ ?_; clear hK K) | (with_reducible refine hK _ _ ?_ ?_; (· kernel_rfl); clear hK K) | ((with_reducible refine ah ?_ ?_); (· decide)) | (with_reducible refine bm tk0 aJ ?_ ?_; (· kernel_rfl)) | (with_reducible refine bQ ?_ ?_; (· (try and_intros) <;> first | omega | assumption | (simp only [List.length_append, List.length_map, List.length_cons, List.length_nil] <;> omega))))
        refine bA [0, 1, 7, 8] (by simp only [go_sem, ↓reduceIte, Nat.reduceEqDiff, Nat.reduceLT, Nat.reduceLeDiff, Nat.reduceAdd, Nat.reduceSub, Nat.reduceMul, Nat.reduceBEq, Nat.reduceBNe, Nat.reducePow, Int.reduceToNat, Int.reduceLE, Int.reduceLT, Int.reduceMul, Int.reduceEq, Int.reducePow, Int.reduceAdd, Int.reduceSub, Int.reduceNeg, reduceCtorEq]; exact rfl) ?_
        exact ih (k + 1) ⟨by omega, fun j hj hjk => by
          by_cases e : j = 6 + k
          · rw [hce j hj e, hpre]; simpa using fun e => he e.symm
          · exact hall j hj (by omega)⟩ (by omega)
    · have hlt' : ((k : Int) < ((15 : Nat) : Int)) = False := eq_false (by omega)
      rw [show opS (l.drop a) = none from pf (p := fun x : List UInt8 => x.isPrefixOf (l.drop a)) fun j hj => hall j hj (by omega)]
      repeat' (first | (with_reducible refine hY _ ?_; clear hY Y) | ((with_reducible first | refine av rfl (aD fun K' hK' => ab ?_) | refine hK' _ (ac fun Y hY => ab ?_) | refine ac fun Y hY => ab ?_ | refine ae tk0 aJ (ac fun Y hY => ab ?_) | refine ab ?_ | refine ap ?_); (try clear hK' K'); (try dsimp only [aop]); try simp only [go_sem, ↓reduceIte, Nat.reduceEqDiff, Nat.reduceLT, Nat.reduceLeDiff, Nat.reduceAdd, Nat.reduceSub, Nat.reduceMul, Nat.reduceBEq, Nat.reduceBNe, Nat.reducePow, Int.reduceToNat, Int.reduceLE, Int.reduceLT, Int.reduceMul, Int.reduceEq, Int.reducePow, Int.reduceAdd, Int.reduceSub, Int.reduceNeg, reduceCtorEq, aJ, Tryz.results36, hlt', hol, qo]) | (with_reducible first | refine ai ?_ | refine al ?_ | refine am ?_ | refine aL fun K hK => ?_ | refine ar ?_ | refine bN ?_ | refine bo ?_ | refine az ?_ | refine bq ?_) | (with_reducible refine hK _ ?_; clear hK K) | ((with_reducible refine ah ?_ ?_); (· decide)))
      rfl
end Go.Proofs.YtpkcgdikbjaoaaaGreatDoor
