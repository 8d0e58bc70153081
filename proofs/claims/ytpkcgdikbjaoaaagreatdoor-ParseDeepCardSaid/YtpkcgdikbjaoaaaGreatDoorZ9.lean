/- Keys, letters, numbers, names: scan's and the document's, in K. -/
import Derived.Test.YtpkcgdikbjaoaaaGreatDoorZ8
namespace Go.Proofs.YtpkcgdikbjaoaaaGreatDoor
set_option linter.unusedSimpArgs false
set_option linter.unusedVariables false
open Go.RowKit
def tL (ks : List (List UInt8)) (x : List UInt8) : Int := if ks.contains x then (ks.idxOf x : Int) else -1
theorem w7 {ks : List (List UInt8)} {x : List UInt8} {k : Nat} (hk : k < ks.length) (h : ∀ j (hj : j < ks.length), j < k → ks[j] ≠ x) (e : ks[k] = x) : tL ks x = k := by
  have hm : x ∈ ks := by rw [← e]; exact List.getElem_mem hk
  unfold tL
  rw [if_pos (List.contains_iff_mem.2 hm)]
  congr 1
  induction ks generalizing k with
  | nil => simp at hk
  | cons y ks ih =>
    cases k with
    | zero => simp at e; subst e; simp
    | succ k =>
      have h0 : y ≠ x := h 0 (by simp) (by omega)
      simp only [List.getElem_cons_succ] at e
      have hk' : k < ks.length := by simpa using hk
      rw [List.idxOf_cons, beq_eq_false_iff_ne.2 h0, cond_false, ih hk' (fun j hj hjk => h (j + 1) (Nat.succ_lt_succ hj) (by omega)) e (by rw [← e]; exact List.getElem_mem hk')]
theorem tz {ks : List (List UInt8)} {x : List UInt8} (h : ∀ j (hj : j < ks.length), ks[j] ≠ x) : tL ks x = -1 ∧ ks.contains x = false := by
  have hm : ¬ ks.contains x = true := fun e => by
    obtain ⟨j, hj, e⟩ := List.getElem_of_mem (List.contains_iff_mem.1 e)
    exact h j hj e
  exact ⟨if_neg hm, Bool.eq_false_iff.2 hm⟩
theorem xW (ks : List (List UInt8)) (x : List UInt8) : decide (0 ≤ tL ks x) = ks.contains x := by
  unfold tL
  by_cases h : ks.contains x = true
  · rw [if_pos h, h]; simp
  · rw [if_neg h, Bool.eq_false_iff.2 h]; rfl
def b5 : Nat → List Nat
  | 0 => [0, 1]
  | 1 => [0, 1]
  | 2 => [0, 1, 7, 8]
  | 3 => [0, 1, 7, 8]
  | 4 => [0, 1, 5, 7, 8]
  | 5 => [5]
  | 6 => [0, 1, 7, 8]
  | 7 => []
  | _ => []
set_option maxRecDepth 100000 in
set_option maxHeartbeats 4000000 in
theorem uM (ks : List (List UInt8)) (x : List UInt8) (hl : ks.length ≤ 4611686018427387904) : AFn Tryz.prog 97 [.sl (ks.map bs) ks.length .none, bs x] [] (.c (.int .i64 (tL ks x))) [] := by
  refine aK [] Tryz.func97 rfl Tryz.ntmps97 (Nat.le_of_ble_eq_true rfl) (Nat.le_of_ble_eq_true rfl) fun w0 G0 B0 Pr hB0 => ?_
  simp only [aQ, aI, List.cons_append, List.nil_append]
  repeat' (first | (with_reducible refine hY _ ?_; clear hY Y) | ((with_reducible first | refine av rfl (aD fun K' hK' => ab ?_) | refine hK' _ (ac fun Y hY => ab ?_) | refine ae tk0 b5 (ac fun Y hY => ab ?_)); (try clear hK' K'); (try dsimp only [aop]); try simp only [go_sem, ↓reduceIte, Nat.reduceEqDiff, Nat.reduceLT, Nat.reduceLeDiff, Nat.reduceAdd, Nat.reduceSub, Nat.reduceMul, Nat.reduceBEq, Nat.reduceBNe, Nat.reducePow, Int.reduceToNat, Int.reduceLE, Int.reduceLT, Int.reduceMul, Int.reduceEq, Int.reducePow, Int.reduceAdd, Int.reduceSub, Int.reduceNeg, reduceCtorEq, b5, Tryz.results97]) | (with_reducible first | refine ai ?_ | refine al ?_ | refine am ?_ | refine aL fun K hK => ?_ | refine aq ?_ | refine bx ?_) | (with_reducible refine hK _ ?_; clear hK K))
  refine cw (α := Nat) (fun k => [(0, .sl (ks.map bs) ks.length .none), (1, bs x), (7, .c (.int .i64 (ks.length : Int))), (8, .c (.int .i64 (k : Int)))])
    (fun k => k ≤ ks.length ∧ ∀ j (hj : j < ks.length), j < k → ks[j] ≠ x) (fun k => ks.length - k) 0 [0, 1, 7, 8] ?_ ⟨Nat.zero_le _, fun j _ h => absurd h (by omega)⟩ ?_
  · simp only [go_sem, ↓reduceIte, Nat.reduceEqDiff, Nat.reduceLT, Nat.reduceLeDiff, Nat.reduceAdd, Nat.reduceSub, Nat.reduceMul, Nat.reduceBEq, Nat.reduceBNe, Nat.reducePow, Int.reduceToNat, Int.reduceLE, Int.reduceLT, Int.reduceMul, Int.reduceEq, Int.reducePow, Int.reduceAdd, Int.reduceSub, Int.reduceNeg, reduceCtorEq] <;> rfl
  rintro k ⟨hk, hall⟩ ih
  have hkw : k < ks.length → IntKind.i64.wrap ((k : Int) + 1) = ((k + 1 : Nat) : Int) := fun h => by rw [bO (by omega) (by omega)]; rfl
  by_cases hlt : k < ks.length
  · have hlt' : ((k : Int) < (ks.length : Int)) = True := by simp; omega
    have hat := lj (f := bs) hlt
    have hkw := hkw hlt
    by_cases he : ks[k] = x
    · have hb : (x == ks[k]) = true := by simp [he]
      rw [w7 hlt hall he]
      repeat' (first | (with_reducible refine hY _ ?_; clear hY Y) | ((with_reducible first | refine av rfl (aD fun K' hK' => ab ?_) | refine hK' _ (ac fun Y hY => ab ?_) | refine ac fun Y hY => ab ?_ | refine ae tk0 b5 (ac fun Y hY => ab ?_) | refine ab ?_ | refine ap ?_); (try clear hK' K'); (try dsimp only [aop]); try simp only [go_sem, ↓reduceIte, Nat.reduceEqDiff, Nat.reduceLT, Nat.reduceLeDiff, Nat.reduceAdd, Nat.reduceSub, Nat.reduceMul, Nat.reduceBEq, Nat.reduceBNe, Nat.reducePow, Int.reduceToNat, Int.reduceLE, Int.reduceLT, Int.reduceMul, Int.reduceEq, Int.reducePow, Int.reduceAdd, Int.reduceSub, Int.reduceNeg, reduceCtorEq, b5, Tryz.results97, hlt', hat, hb]) | (with_reducible first | refine ai ?_ | refine al ?_ | refine am ?_ | refine aL fun K hK => ?_ | refine ax ?_ | refine bg ?_ | refine bL ?_ | refine aq ?_ | refine aC ?_ | refine az ?_) | (with_reducible refine hK _ ?_; clear hK K) | ((with_reducible refine ah ?_ ?_); (· decide)) | (with_reducible refine bQ ?_ ?_; (· (try and_intros) <;> first | omega | assumption | (simp only [List.length_append, List.length_map, List.length_cons, List.length_nil] <;> omega))) | (with_reducible refine be (aU _) ?_))
    · have hb : (x == ks[k]) = false := by simpa using fun h => he h.symm
      repeat' (first | (with_reducible refine hY _ ?_; clear hY Y) | ((with_reducible first | refine av rfl (aD fun K' hK' => ab ?_) | refine hK' _ (ac fun Y hY => ab ?_) | refine ac fun Y hY => ab ?_ | refine ae tk0 b5 (ac fun Y hY => ab ?_) | refine ab ?_); (try clear hK' K'); (try dsimp only [aop]); try simp only [go_sem, ↓reduceIte, Nat.reduceEqDiff, Nat.reduceLT, Nat.reduceLeDiff, Nat.reduceAdd, Nat.reduceSub, Nat.reduceMul, Nat.reduceBEq, Nat.reduceBNe, Nat.reducePow, Int.reduceToNat, Int.reduceLE, Int.reduceLT, Int.reduceMul, Int.reduceEq, Int.reducePow, Int.reduceAdd, Int.reduceSub, Int.reduceNeg, reduceCtorEq, b5, Tryz.results97, hlt', hat, hb, hkw]) | (with_reducible first | refine ai ?_ | refine al ?_ | refine am ?_ | refine aL fun K hK => ?_ | refine ax ?_ | refine ar ?_ | refine aO ?_ | refine aq ?_ | refine aC ?_) | (with_reducible refine hK _ ?_; clear hK K) | ((with_reducible refine ah ?_ ?_); (· decide)) | (with_reducible refine bQ ?_ ?_; (· (try and_intros) <;> first | omega | assumption | (simp only [List.length_append, List.length_map, List.length_cons, List.length_nil] <;> omega))) | (with_reducible refine be (aU _) ?_))
      refine bA [0, 1, 7, 8] (by simp only [go_sem, ↓reduceIte, Nat.reduceEqDiff, Nat.reduceLT, Nat.reduceLeDiff, Nat.reduceAdd, Nat.reduceSub, Nat.reduceMul, Nat.reduceBEq, Nat.reduceBNe, Nat.reducePow, Int.reduceToNat, Int.reduceLE, Int.reduceLT, Int.reduceMul, Int.reduceEq, Int.reducePow, Int.reduceAdd, Int.reduceSub, Int.reduceNeg, reduceCtorEq]; exact rfl) ?_
      exact ih (k + 1) ⟨by omega, fun j hj hjk => by
        by_cases e : j = k
        · subst e; exact he
        · exact hall j hj (by omega)⟩ (by omega)
  · have hlt' : ((k : Int) < (ks.length : Int)) = False := by simp; omega
    rw [(tz fun j hj => hall j hj (by omega)).1]
    repeat' (first | (with_reducible refine hY _ ?_; clear hY Y) | ((with_reducible first | refine av rfl (aD fun K' hK' => ab ?_) | refine hK' _ (ac fun Y hY => ab ?_) | refine ac fun Y hY => ab ?_ | refine ae tk0 b5 (ac fun Y hY => ab ?_) | refine ab ?_ | refine ap ?_); (try clear hK' K'); (try dsimp only [aop]); try simp only [go_sem, ↓reduceIte, Nat.reduceEqDiff, Nat.reduceLT, Nat.reduceLeDiff, Nat.reduceAdd, Nat.reduceSub, Nat.reduceMul, Nat.reduceBEq, Nat.reduceBNe, Nat.reducePow, Int.reduceToNat, Int.reduceLE, Int.reduceLT, Int.reduceMul, Int.reduceEq, Int.reducePow, Int.reduceAdd, Int.reduceSub, Int.reduceNeg, reduceCtorEq, b5, Tryz.results97, hlt']) | (with_reducible first | refine ai ?_ | refine al ?_ | refine am ?_ | refine aL fun K hK => ?_ | refine ar ?_ | refine bN ?_ | refine bo ?_ | refine az ?_ | refine bq ?_) | (with_reducible refine hK _ ?_; clear hK K) | ((with_reducible refine ah ?_ ?_); (· decide)))
def dR : Nat → List Nat
  | 0 => [0, 1]
  | 1 => [0, 1]
  | _ => []
set_option maxRecDepth 100000 in
theorem pN (ks : List (List UInt8)) (x : List UInt8) (hl : ks.length ≤ 4611686018427387904) : AFn Tryz.prog 78 [.sl (ks.map bs) ks.length .none, bs x] [] (.c (.bool (ks.contains x))) [] := by
  have h := uM ks x hl
  have e := xW ks x
  refine aK [] Tryz.func78 rfl Tryz.ntmps78 (Nat.le_of_ble_eq_true rfl) (Nat.le_of_ble_eq_true rfl) fun w0 G0 B0 Pr hB0 => ?_
  simp only [aQ, aI, List.cons_append, List.nil_append]
  repeat' (first | (with_reducible refine hY _ ?_; clear hY Y) | ((with_reducible first | refine av rfl (aD fun K' hK' => ab ?_) | refine hK' _ (ac fun Y hY => ab ?_) | refine ae tk0 dR (ac fun Y hY => ab ?_) | refine ab ?_ | refine ap ?_); (try clear hK' K'); (try dsimp only [aop]); try simp only [go_sem, ↓reduceIte, Nat.reduceEqDiff, Nat.reduceLT, Nat.reduceLeDiff, Nat.reduceAdd, Nat.reduceSub, Nat.reduceMul, Nat.reduceBEq, Nat.reduceBNe, Nat.reducePow, Int.reduceToNat, Int.reduceLE, Int.reduceLT, Int.reduceMul, Int.reduceEq, Int.reducePow, Int.reduceAdd, Int.reduceSub, Int.reduceNeg, reduceCtorEq, dR, Tryz.results78, e]) | (with_reducible first | refine ai ?_ | refine al ?_ | refine am ?_ | refine aL fun K hK => ?_ | refine az ?_) | (with_reducible refine hK _ ?_; clear hK K) | (with_reducible refine aa (h) ?_))
def keyL : List (List UInt8) := [[112, 114, 111, 99], [114, 101, 113, 117, 105, 114, 101, 115], [101, 110, 115, 117, 114, 101, 115], [115, 107, 105, 112], [112, 117, 116], [103, 101, 116], [110, 101, 119], [102, 114, 101, 101], [105, 102], [101, 108, 115, 101], [119, 104, 105, 108, 101], [105, 110, 118, 97, 114, 105, 97, 110, 116], [97, 115, 115, 101, 114, 116], [99, 97, 108, 108], [116, 114, 117, 101], [102, 97, 108, 115, 101], [101, 109, 112], [97, 99, 99], [112, 116, 115]]
theorem uu : yl = keyL.map bs := rfl
def ga : Nat → List Nat
  | 0 => [0]
  | 1 => [0]
  | _ => []
set_option maxRecDepth 100000 in
theorem zK (x : List UInt8) : AFn Tryz.prog 58 [bs x] [] (.c (.bool (keyL.contains x))) [] := by
  have h := pN keyL x (by decide)
  rw [← uu, show keyL.length = 19 from rfl] at h
  refine aK [] Tryz.func58 rfl Tryz.ntmps58 (Nat.le_of_ble_eq_true rfl) (Nat.le_of_ble_eq_true rfl) fun w0 G0 B0 Pr hB0 => ?_
  simp only [aQ, aI, List.cons_append, List.nil_append]
  repeat' (first | (with_reducible refine hY _ ?_; clear hY Y) | ((with_reducible first | refine av rfl (aD fun K' hK' => ab ?_) | refine hK' _ (ac fun Y hY => ab ?_) | refine ae tk0 ga (ac fun Y hY => ab ?_) | refine ab ?_ | refine ap ?_); (try clear hK' K'); (try dsimp only [aop]); try simp only [go_sem, ↓reduceIte, Nat.reduceEqDiff, Nat.reduceLT, Nat.reduceLeDiff, Nat.reduceAdd, Nat.reduceSub, Nat.reduceMul, Nat.reduceBEq, Nat.reduceBNe, Nat.reducePow, Int.reduceToNat, Int.reduceLE, Int.reduceLT, Int.reduceMul, Int.reduceEq, Int.reducePow, Int.reduceAdd, Int.reduceSub, Int.reduceNeg, reduceCtorEq, ga, Tryz.results58]) | (with_reducible first | refine ai ?_ | refine al ?_ | refine am ?_ | refine aL fun K hK => ?_ | refine az ?_) | (with_reducible refine hK _ ?_; clear hK K) | (with_reducible refine aa (h) ?_))
def ci : Nat → List Nat
  | 0 => [0]
  | 1 => [0]
  | 2 => [0, 3]
  | 3 => [0, 3, 4]
  | 4 => [0, 3, 4]
  | 5 => [0, 3, 4]
  | 6 => []
  | 7 => []
  | _ => []
set_option maxRecDepth 100000 in
set_option maxHeartbeats 4000000 in
theorem yY (x : List UInt8) : AFn Tryz.prog 37 [bs x] [] (.c (.bool (keyL.contains x))) [] := by
  refine aK [] Tryz.func37 rfl Tryz.ntmps37 (Nat.le_of_ble_eq_true rfl) (Nat.le_of_ble_eq_true rfl) fun w0 G0 B0 Pr hB0 => ?_
  simp only [aQ, aI, List.cons_append, List.nil_append]
  repeat' (first | (with_reducible refine hY _ ?_; clear hY Y) | ((with_reducible first | refine av rfl (aD fun K' hK' => ab ?_) | refine hK' _ (ac fun Y hY => ab ?_) | refine ae tk0 ci (ac fun Y hY => ab ?_)); (try clear hK' K'); (try dsimp only [aop]); try simp only [go_sem, ↓reduceIte, Nat.reduceEqDiff, Nat.reduceLT, Nat.reduceLeDiff, Nat.reduceAdd, Nat.reduceSub, Nat.reduceMul, Nat.reduceBEq, Nat.reduceBNe, Nat.reducePow, Int.reduceToNat, Int.reduceLE, Int.reduceLT, Int.reduceMul, Int.reduceEq, Int.reducePow, Int.reduceAdd, Int.reduceSub, Int.reduceNeg, reduceCtorEq, ci, Tryz.results37]) | (with_reducible first | refine ai ?_ | refine al ?_ | refine am ?_ | refine aL fun K hK => ?_ | refine aq ?_ | refine bx ?_) | (with_reducible refine hK _ ?_; clear hK K))
  refine cw (α := Nat) (fun k => [(0, bs x), (3, .sl (keyL.map bs) 19 .full), (4, .c (.int .i64 (k : Int)))])
    (fun k => k ≤ 19 ∧ ∀ j (hj : j < keyL.length), j < k → keyL[j] ≠ x) (fun k => 19 - k) 0 [0, 3, 4] ?_ ⟨Nat.zero_le _, fun j _ h => absurd h (by omega)⟩ ?_
  · simp only [go_sem, ↓reduceIte, Nat.reduceEqDiff, Nat.reduceLT, Nat.reduceLeDiff, Nat.reduceAdd, Nat.reduceSub, Nat.reduceMul, Nat.reduceBEq, Nat.reduceBNe, Nat.reducePow, Int.reduceToNat, Int.reduceLE, Int.reduceLT, Int.reduceMul, Int.reduceEq, Int.reducePow, Int.reduceAdd, Int.reduceSub, Int.reduceNeg, reduceCtorEq] <;> rfl
  have hkl : keyL.length = 19 := rfl
  rintro k ⟨hk, hall⟩ ih
  have hkw : k < 19 → IntKind.i64.wrap ((k : Int) + 1) = ((k + 1 : Nat) : Int) := fun h => by rw [bO (by omega) (by omega)]; rfl
  by_cases hlt : k < 19
  · have hlt' : ((k : Int) < ((19 : Nat) : Int)) = True := by simp; omega
    have hat := lj (f := bs) (l := keyL) (i := k) (by omega)
    have hkw := hkw hlt
    have hge : keyL[k] ∈ keyL := List.getElem_mem _
    have hce : ∀ j (hj : j < keyL.length), j = k → keyL[j] = keyL[k] := fun j hj e => by subst e; rfl
    generalize keyL[k] = y at *
    by_cases he : y = x
    · have hb : (y == x) = true := by simp [he]
      rw [show keyL.contains x = true from List.contains_iff_mem.2 (by rw [← he]; exact hge)]
      repeat' (first | (with_reducible refine hY _ ?_; clear hY Y) | ((with_reducible first | refine av rfl (aD fun K' hK' => ab ?_) | refine hK' _ (ac fun Y hY => ab ?_) | refine ac fun Y hY => ab ?_ | refine ae tk0 ci (ac fun Y hY => ab ?_) | refine ab ?_ | refine ap ?_); (try clear hK' K'); (try dsimp only [aop]); try simp only [go_sem, ↓reduceIte, Nat.reduceEqDiff, Nat.reduceLT, Nat.reduceLeDiff, Nat.reduceAdd, Nat.reduceSub, Nat.reduceMul, Nat.reduceBEq, Nat.reduceBNe, Nat.reducePow, Int.reduceToNat, Int.reduceLE, Int.reduceLT, Int.reduceMul, Int.reduceEq, Int.reducePow, Int.reduceAdd, Int.reduceSub, Int.reduceNeg, reduceCtorEq, ci, Tryz.results37, hlt', hat, hb]) | (with_reducible first | refine ai ?_ | refine al ?_ | refine am ?_ | refine aL fun K hK => ?_ | refine ax ?_ | refine bg ?_ | refine bL ?_ | refine aq ?_ | refine aC ?_ | refine az ?_) | (with_reducible refine hK _ ?_; clear hK K) | ((with_reducible refine ah ?_ ?_); (· decide)) | (with_reducible refine bQ ?_ ?_; (· (try and_intros) <;> first | omega | assumption | (simp only [List.length_append, List.length_map, List.length_cons, List.length_nil] <;> omega))) | (with_reducible refine be (aU _) ?_))
    · have hb : (y == x) = false := by simpa using he
      repeat' (first | (with_reducible refine hY _ ?_; clear hY Y) | ((with_reducible first | refine av rfl (aD fun K' hK' => ab ?_) | refine hK' _ (ac fun Y hY => ab ?_) | refine ac fun Y hY => ab ?_ | refine ae tk0 ci (ac fun Y hY => ab ?_) | refine ab ?_); (try clear hK' K'); (try dsimp only [aop]); try simp only [go_sem, ↓reduceIte, Nat.reduceEqDiff, Nat.reduceLT, Nat.reduceLeDiff, Nat.reduceAdd, Nat.reduceSub, Nat.reduceMul, Nat.reduceBEq, Nat.reduceBNe, Nat.reducePow, Int.reduceToNat, Int.reduceLE, Int.reduceLT, Int.reduceMul, Int.reduceEq, Int.reducePow, Int.reduceAdd, Int.reduceSub, Int.reduceNeg, reduceCtorEq, ci, Tryz.results37, hlt', hat, hb, hkw]) | (with_reducible first | refine ai ?_ | refine al ?_ | refine am ?_ | refine aL fun K hK => ?_ | refine ax ?_ | refine ar ?_ | refine aO ?_ | refine aq ?_ | refine aC ?_) | (with_reducible refine hK _ ?_; clear hK K) | ((with_reducible refine ah ?_ ?_); (· decide)) | (with_reducible refine bQ ?_ ?_; (· (try and_intros) <;> first | omega | assumption | (simp only [List.length_append, List.length_map, List.length_cons, List.length_nil] <;> omega))) | (with_reducible refine be (aU _) ?_))
      refine bA [0, 3, 4] (by simp only [go_sem, ↓reduceIte, Nat.reduceEqDiff, Nat.reduceLT, Nat.reduceLeDiff, Nat.reduceAdd, Nat.reduceSub, Nat.reduceMul, Nat.reduceBEq, Nat.reduceBNe, Nat.reducePow, Int.reduceToNat, Int.reduceLE, Int.reduceLT, Int.reduceMul, Int.reduceEq, Int.reducePow, Int.reduceAdd, Int.reduceSub, Int.reduceNeg, reduceCtorEq]; exact rfl) ?_
      exact ih (k + 1) ⟨by omega, fun j hj hjk => by
        by_cases e : j = k
        · rw [hce j hj e]; exact he
        · exact hall j hj (by omega)⟩ (by omega)
  · have hlt' : ((k : Int) < ((19 : Nat) : Int)) = False := by simp; omega
    rw [(tz fun j hj => hall j hj (by omega)).2]
    repeat' (first | (with_reducible refine hY _ ?_; clear hY Y) | ((with_reducible first | refine av rfl (aD fun K' hK' => ab ?_) | refine hK' _ (ac fun Y hY => ab ?_) | refine ac fun Y hY => ab ?_ | refine ae tk0 ci (ac fun Y hY => ab ?_) | refine ab ?_ | refine ap ?_); (try clear hK' K'); (try dsimp only [aop]); try simp only [go_sem, ↓reduceIte, Nat.reduceEqDiff, Nat.reduceLT, Nat.reduceLeDiff, Nat.reduceAdd, Nat.reduceSub, Nat.reduceMul, Nat.reduceBEq, Nat.reduceBNe, Nat.reducePow, Int.reduceToNat, Int.reduceLE, Int.reduceLT, Int.reduceMul, Int.reduceEq, Int.reducePow, Int.reduceAdd, Int.reduceSub, Int.reduceNeg, reduceCtorEq, ci, Tryz.results37, hlt', hkl]) | (with_reducible first | refine ai ?_ | refine al ?_ | refine am ?_ | refine aL fun K hK => ?_ | refine ar ?_ | refine bN ?_ | refine bo ?_ | refine az ?_ | refine bq ?_) | (with_reducible refine hK _ ?_; clear hK K) | ((with_reducible refine ah ?_ ?_); (· decide)))
end Go.Proofs.YtpkcgdikbjaoaaaGreatDoor
