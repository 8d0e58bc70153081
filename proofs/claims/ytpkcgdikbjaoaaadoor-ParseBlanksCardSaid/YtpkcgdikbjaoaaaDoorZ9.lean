/- Keys, letters, numbers, names: scan's and the document's, in K. -/
import Derived.Test.YtpkcgdikbjaoaaaDoorZ8
namespace Go.Proofs.YtpkcgdikbjaoaaaDoor
set_option linter.unusedSimpArgs false
set_option linter.unusedVariables false
open Go.RowKit
def oh (ks : List (List UInt8)) (x : List UInt8) : Int := if ks.contains x then (ks.idxOf x : Int) else -1
theorem rb {ks : List (List UInt8)} {x : List UInt8} {k : Nat} (hk : k < ks.length) (h : ∀ j (hj : j < ks.length), j < k → ks[j] ≠ x) (e : ks[k] = x) : oh ks x = k := by
  have hm : x ∈ ks := by rw [← e]; exact List.getElem_mem hk
  unfold oh
  rw [if_pos (List.contains_iff_mem.2 hm)]
  congr 1
  induction ks generalizing k with
  | nil => simp at hk
  | cons y ks ih =>
    cases k with
    | zero => simp at e; subst e; simp
    | succ k =>
      have h0 : y ≠ x := h 0 (by simp) (by omega)
      simp only [List.getElem_cons_succ] at e
      have hk' : k < ks.length := by simpa using hk
      rw [List.idxOf_cons, beq_eq_false_iff_ne.2 h0, cond_false, ih hk' (fun j hj hjk => h (j + 1) (Nat.succ_lt_succ hj) (by omega)) e (by rw [← e]; exact List.getElem_mem hk')]
theorem rY {ks : List (List UInt8)} {x : List UInt8} (h : ∀ j (hj : j < ks.length), ks[j] ≠ x) : oh ks x = -1 ∧ ks.contains x = false := by
  have hm : ¬ ks.contains x = true := fun e => by
    obtain ⟨j, hj, e⟩ := List.getElem_of_mem (List.contains_iff_mem.1 e)
    exact h j hj e
  exact ⟨if_neg hm, Bool.eq_false_iff.2 hm⟩
theorem q9 (ks : List (List UInt8)) (x : List UInt8) : decide (0 ≤ oh ks x) = ks.contains x := by
  unfold oh
  by_cases h : ks.contains x = true
  · rw [if_pos h, h]; simp
  · rw [if_neg h, Bool.eq_false_iff.2 h]; rfl
def a6 : Nat → List Nat
  | 0 => [0, 1]
  | 1 => [0, 1]
  | 2 => [0, 1, 7, 8]
  | 3 => [0, 1, 7, 8]
  | 4 => [0, 1, 5, 7, 8]
  | 5 => [5]
  | 6 => [0, 1, 7, 8]
  | 7 => []
  | _ => []
set_option maxRecDepth 100000 in
set_option maxHeartbeats 4000000 in
theorem o7 (ks : List (List UInt8)) (x : List UInt8) (hl : ks.length ≤ 4611686018427387904) : AFn Tryd.prog 55 [.sl (ks.map bs) ks.length .none, bs x] [] (.c (.int .i64 (oh ks x))) [] := by
  refine aM [] Tryd.func55 rfl Tryd.ntmps55 (Nat.le_of_ble_eq_true rfl) (Nat.le_of_ble_eq_true rfl) fun w0 G0 B0 Pr hB0 => ?_
  simp only [aS, aJ, List.cons_append, List.nil_append]
  repeat' (first | (with_reducible refine hY _ ?_; clear hY Y) | ((with_reducible first | refine aD rfl (aN fun K' hK' => ab ?_) | refine hK' _ (ac fun Y hY => ab ?_) | refine ae tk0 a6 (ac fun Y hY => ab ?_)); (try clear hK' K'); (try dsimp only [aop]); try simp only [go_sem, ↓reduceIte, Nat.reduceEqDiff, Nat.reduceLT, Nat.reduceLeDiff, Nat.reduceAdd, Nat.reduceSub, Nat.reduceMul, Nat.reduceBEq, Nat.reduceBNe, Nat.reducePow, Int.reduceToNat, Int.reduceLE, Int.reduceLT, Int.reduceMul, Int.reduceEq, Int.reducePow, Int.reduceAdd, Int.reduceSub, Int.reduceNeg, reduceCtorEq, a6, Tryd.results55]) | (with_reducible first | refine aj ?_ | refine ar ?_ | refine au ?_ | refine aT fun K hK => ?_ | refine ax ?_ | refine bZ ?_) | (with_reducible refine hK _ ?_; clear hK K))
  refine b7 (α := Nat) (fun k => [(0, .sl (ks.map bs) ks.length .none), (1, bs x), (7, .c (.int .i64 (ks.length : Int))), (8, .c (.int .i64 (k : Int)))])
    (fun k => k ≤ ks.length ∧ ∀ j (hj : j < ks.length), j < k → ks[j] ≠ x) (fun k => ks.length - k) 0 [0, 1, 7, 8] ?_ ⟨Nat.zero_le _, fun j _ h => absurd h (by omega)⟩ ?_
  · simp only [go_sem, ↓reduceIte, Nat.reduceEqDiff, Nat.reduceLT, Nat.reduceLeDiff, Nat.reduceAdd, Nat.reduceSub, Nat.reduceMul, Nat.reduceBEq, Nat.reduceBNe, Nat.reducePow, Int.reduceToNat, Int.reduceLE, Int.reduceLT, Int.reduceMul, Int.reduceEq, Int.reducePow, Int.reduceAdd, Int.reduceSub, Int.reduceNeg, reduceCtorEq] <;> rfl
  rintro k ⟨hk, hall⟩ ih
  have hkw : k < ks.length → IntKind.i64.wrap ((k : Int) + 1) = ((k + 1 : Nat) : Int) := fun h => by rw [bX (by omega) (by omega)]; rfl
  by_cases hlt : k < ks.length
  · have hlt' : ((k : Int) < (ks.length : Int)) = True := by simp; omega
    have hat := kV (f := bs) hlt
    have hkw := hkw hlt
    by_cases he : ks[k] = x
    · have hb : (x == ks[k]) = true := by simp [he]
      rw [rb hlt hall he]
      repeat' (first | (with_reducible refine hY _ ?_; clear hY Y) | ((with_reducible first | refine aD rfl (aN fun K' hK' => ab ?_) | refine hK' _ (ac fun Y hY => ab ?_) | refine ac fun Y hY => ab ?_ | refine ae tk0 a6 (ac fun Y hY => ab ?_) | refine ab ?_ | refine av ?_); (try clear hK' K'); (try dsimp only [aop]); try simp only [go_sem, ↓reduceIte, Nat.reduceEqDiff, Nat.reduceLT, Nat.reduceLeDiff, Nat.reduceAdd, Nat.reduceSub, Nat.reduceMul, Nat.reduceBEq, Nat.reduceBNe, Nat.reducePow, Int.reduceToNat, Int.reduceLE, Int.reduceLT, Int.reduceMul, Int.reduceEq, Int.reducePow, Int.reduceAdd, Int.reduceSub, Int.reduceNeg, reduceCtorEq, a6, Tryd.results55, hlt', hat, hb]) | (with_reducible first | refine aj ?_ | refine ar ?_ | refine au ?_ | refine aT fun K hK => ?_ | refine aK ?_ | refine bA ?_ | refine b6 ?_ | refine ax ?_ | refine aP ?_ | refine aF ?_) | (with_reducible refine hK _ ?_; clear hK K) | ((with_reducible refine al ?_ ?_); (· decide)) | (with_reducible refine bT ?_ ?_; (· (try and_intros) <;> first | omega | assumption | (simp only [List.length_append, List.length_map, List.length_cons, List.length_nil] <;> omega))) | (with_reducible refine bE (cm _) ?_))
    · have hb : (x == ks[k]) = false := by simpa using fun h => he h.symm
      repeat' (first | (with_reducible refine hY _ ?_; clear hY Y) | ((with_reducible first | refine aD rfl (aN fun K' hK' => ab ?_) | refine hK' _ (ac fun Y hY => ab ?_) | refine ac fun Y hY => ab ?_ | refine ae tk0 a6 (ac fun Y hY => ab ?_) | refine ab ?_); (try clear hK' K'); (try dsimp only [aop]); try simp only [go_sem, ↓reduceIte, Nat.reduceEqDiff, Nat.reduceLT, Nat.reduceLeDiff, Nat.reduceAdd, Nat.reduceSub, Nat.reduceMul, Nat.reduceBEq, Nat.reduceBNe, Nat.reducePow, Int.reduceToNat, Int.reduceLE, Int.reduceLT, Int.reduceMul, Int.reduceEq, Int.reducePow, Int.reduceAdd, Int.reduceSub, Int.reduceNeg, reduceCtorEq, a6, Tryd.results55, hlt', hat, hb, hkw]) | (with_reducible first | refine aj ?_ | refine ar ?_ | refine au ?_ | refine aT fun K hK => ?_ | refine aK ?_ | refine aC ?_ | refine a8 ?_ | refine ax ?_ | refine aP ?_) | (with_reducible refine hK _ ?_; clear hK K) | ((with_reducible refine al ?_ ?_); (· decide)) | (with_reducible refine bT ?_ ?_; (· (try and_intros) <;> first | omega | assumption | (simp only [List.length_append, List.length_map, List.length_cons, List.length_nil] <;> omega))) | (with_reducible refine bE (cm _) ?_))
      refine bI [0, 1, 7, 8] (by simp only [go_sem, ↓reduceIte, Nat.reduceEqDiff, Nat.reduceLT, Nat.reduceLeDiff, Nat.reduceAdd, Nat.reduceSub, Nat.reduceMul, Nat.reduceBEq, Nat.reduceBNe, Nat.reducePow, Int.reduceToNat, Int.reduceLE, Int.reduceLT, Int.reduceMul, Int.reduceEq, Int.reducePow, Int.reduceAdd, Int.reduceSub, Int.reduceNeg, reduceCtorEq]; exact rfl) ?_
      exact ih (k + 1) ⟨by omega, fun j hj hjk => by
        by_cases e : j = k
        · subst e; exact he
        · exact hall j hj (by omega)⟩ (by omega)
  · have hlt' : ((k : Int) < (ks.length : Int)) = False := by simp; omega
    rw [(rY fun j hj => hall j hj (by omega)).1]
    repeat' (first | (with_reducible refine hY _ ?_; clear hY Y) | ((with_reducible first | refine aD rfl (aN fun K' hK' => ab ?_) | refine hK' _ (ac fun Y hY => ab ?_) | refine ac fun Y hY => ab ?_ | refine ae tk0 a6 (ac fun Y hY => ab ?_) | refine ab ?_ | refine av ?_); (try clear hK' K'); (try dsimp only [aop]); try simp only [go_sem, ↓reduceIte, Nat.reduceEqDiff, Nat.reduceLT, Nat.reduceLeDiff, Nat.reduceAdd, Nat.reduceSub, Nat.reduceMul, Nat.reduceBEq, Nat.reduceBNe, Nat.reducePow, Int.reduceToNat, Int.reduceLE, Int.reduceLT, Int.reduceMul, Int.reduceEq, Int.reducePow, Int.reduceAdd, Int.reduceSub, Int.reduceNeg, reduceCtorEq, a6, Tryd.results55, hlt']) | (with_reducible first | refine aj ?_ | refine ar ?_ | refine au ?_ | refine aT fun K hK => ?_ | refine aC ?_ | refine b3 ?_ | refine bG ?_ | refine aF ?_ | refine bH ?_) | (with_reducible refine hK _ ?_; clear hK K) | ((with_reducible refine al ?_ ?_); (· decide)))
def ci : Nat → List Nat
  | 0 => [0, 1]
  | 1 => [0, 1]
  | _ => []
set_option maxRecDepth 100000 in
theorem mm (ks : List (List UInt8)) (x : List UInt8) (hl : ks.length ≤ 4611686018427387904) : AFn Tryd.prog 40 [.sl (ks.map bs) ks.length .none, bs x] [] (.c (.bool (ks.contains x))) [] := by
  have h := o7 ks x hl
  have e := q9 ks x
  refine aM [] Tryd.func40 rfl Tryd.ntmps40 (Nat.le_of_ble_eq_true rfl) (Nat.le_of_ble_eq_true rfl) fun w0 G0 B0 Pr hB0 => ?_
  simp only [aS, aJ, List.cons_append, List.nil_append]
  repeat' (first | (with_reducible refine hY _ ?_; clear hY Y) | ((with_reducible first | refine aD rfl (aN fun K' hK' => ab ?_) | refine hK' _ (ac fun Y hY => ab ?_) | refine ae tk0 ci (ac fun Y hY => ab ?_) | refine ab ?_ | refine av ?_); (try clear hK' K'); (try dsimp only [aop]); try simp only [go_sem, ↓reduceIte, Nat.reduceEqDiff, Nat.reduceLT, Nat.reduceLeDiff, Nat.reduceAdd, Nat.reduceSub, Nat.reduceMul, Nat.reduceBEq, Nat.reduceBNe, Nat.reducePow, Int.reduceToNat, Int.reduceLE, Int.reduceLT, Int.reduceMul, Int.reduceEq, Int.reducePow, Int.reduceAdd, Int.reduceSub, Int.reduceNeg, reduceCtorEq, ci, Tryd.results40, e]) | (with_reducible first | refine aj ?_ | refine ar ?_ | refine au ?_ | refine aT fun K hK => ?_ | refine aF ?_) | (with_reducible refine hK _ ?_; clear hK K) | (with_reducible refine aa (h) ?_))
def keyL : List (List UInt8) := [[112, 114, 111, 99], [114, 101, 113, 117, 105, 114, 101, 115], [101, 110, 115, 117, 114, 101, 115], [115, 107, 105, 112], [112, 117, 116], [103, 101, 116], [110, 101, 119], [102, 114, 101, 101], [105, 102], [101, 108, 115, 101], [119, 104, 105, 108, 101], [105, 110, 118, 97, 114, 105, 97, 110, 116], [97, 115, 115, 101, 114, 116], [99, 97, 108, 108], [116, 114, 117, 101], [102, 97, 108, 115, 101], [101, 109, 112], [97, 99, 99], [112, 116, 115]]
theorem qo : r9 = keyL.map bs := rfl
def dF : Nat → List Nat
  | 0 => [0]
  | 1 => [0]
  | _ => []
set_option maxRecDepth 100000 in
theorem tW (x : List UInt8) : AFn Tryd.prog 22 [bs x] [] (.c (.bool (keyL.contains x))) [] := by
  have h := mm keyL x (by decide)
  rw [← qo, show keyL.length = 19 from rfl] at h
  refine aM [] Tryd.func22 rfl Tryd.ntmps22 (Nat.le_of_ble_eq_true rfl) (Nat.le_of_ble_eq_true rfl) fun w0 G0 B0 Pr hB0 => ?_
  simp only [aS, aJ, List.cons_append, List.nil_append]
  repeat' (first | (with_reducible refine hY _ ?_; clear hY Y) | ((with_reducible first | refine aD rfl (aN fun K' hK' => ab ?_) | refine hK' _ (ac fun Y hY => ab ?_) | refine ae tk0 dF (ac fun Y hY => ab ?_) | refine ab ?_ | refine av ?_); (try clear hK' K'); (try dsimp only [aop]); try simp only [go_sem, ↓reduceIte, Nat.reduceEqDiff, Nat.reduceLT, Nat.reduceLeDiff, Nat.reduceAdd, Nat.reduceSub, Nat.reduceMul, Nat.reduceBEq, Nat.reduceBNe, Nat.reducePow, Int.reduceToNat, Int.reduceLE, Int.reduceLT, Int.reduceMul, Int.reduceEq, Int.reducePow, Int.reduceAdd, Int.reduceSub, Int.reduceNeg, reduceCtorEq, dF, Tryd.results22]) | (with_reducible first | refine aj ?_ | refine ar ?_ | refine au ?_ | refine aT fun K hK => ?_ | refine aF ?_) | (with_reducible refine hK _ ?_; clear hK K) | (with_reducible refine aa (h) ?_))
def iN : Nat → List Nat
  | 0 => [0]
  | 1 => [0]
  | 2 => [0, 3]
  | 3 => [0, 3, 4]
  | 4 => [0, 3, 4]
  | 5 => [0, 3, 4]
  | 6 => []
  | 7 => []
  | _ => []
end Go.Proofs.YtpkcgdikbjaoaaaDoor
