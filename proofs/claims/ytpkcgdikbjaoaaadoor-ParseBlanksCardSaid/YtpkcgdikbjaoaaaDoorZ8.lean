/- Texts as lists of bytes, in K. -/
import Derived.Test.YtpkcgdikbjaoaaaDoorZ7
import Derived.Laws.Cover1
namespace Go.Proofs.YtpkcgdikbjaoaaaDoor
set_option linter.unusedSimpArgs false
set_option linter.unusedVariables false
open Go.RowKit
attribute [go_sem] bs List.size_toArray
@[go_sem] theorem ue (l : List UInt8) : (ByteArray.mk l.toArray).size = l.length := rfl
@[go_sem] theorem ul (l : List UInt8) : (ByteArray.mk l.toArray).data.toList = l := rfl
@[go_sem] theorem tR (l : List UInt8) : (ByteArray.mk l.toArray).toList = l := by
  rw [Lib.toList_data]
attribute [go_sem] ByteArray.extract_mk
@[go_sem] theorem tm (l : List UInt8) (a : Nat) : (l.drop a).take (l.length - a) = l.drop a := List.take_of_length_le (by simp)
theorem q7 (l : List UInt8) (c : UInt8) : ∀ w, (callFunc 51 #[.string ⟨l.toArray⟩, .int .u8 (c.toNat : Int)]).run Tryd.prog w = .ok (.value (.int .i64 (Lib.indexByte l c))) w := fun w => by
  rw [@run_callFunc_indexByte Tryd.prog 51 _ Tryd.func51 (by kernel_rfl) (by kernel_rfl) (by kernel_rfl) (by kernel_rfl), Lib.run_indexByteString]
  simp [Result.andThen]
def ch : Nat → List Nat
  | 0 => [0, 1]
  | 1 => [0, 1]
  | _ => []
set_option maxRecDepth 100000 in
theorem n5 (l : List UInt8) (c : UInt8) : AFn Tryd.prog 38 [bs l, .c (.int .u8 (c.toNat : Int))] [] (.c (.int .i64 (Lib.indexByte l c))) [] := by
  refine aM [] Tryd.func38 rfl Tryd.ntmps38 (Nat.le_of_ble_eq_true rfl) (Nat.le_of_ble_eq_true rfl) fun w0 G0 B0 Pr hB0 => ?_
  simp only [aS, aJ, List.cons_append, List.nil_append, bs]
  repeat' (first | (with_reducible refine hY _ ?_; clear hY Y) | ((with_reducible first | refine aD rfl (aN fun K' hK' => ab ?_) | refine hK' _ (ac fun Y hY => ab ?_) | refine ae tk0 ch (ac fun Y hY => ab ?_) | refine ab ?_ | refine av ?_); (try clear hK' K'); (try dsimp only [aop]); try simp only [go_sem, ↓reduceIte, Nat.reduceEqDiff, Nat.reduceLT, Nat.reduceLeDiff, Nat.reduceAdd, Nat.reduceSub, Nat.reduceMul, Nat.reduceBEq, Nat.reduceBNe, Nat.reducePow, Int.reduceToNat, Int.reduceLE, Int.reduceLT, Int.reduceMul, Int.reduceEq, Int.reducePow, Int.reduceAdd, Int.reduceSub, Int.reduceNeg, reduceCtorEq, ch, Tryd.results38]) | (with_reducible first | refine aj ?_ | refine ar ?_ | refine au ?_ | refine aT fun K hK => ?_ | refine aF ?_) | (with_reducible refine hK _ ?_; clear hK K) | (with_reducible refine sA (q7 l c) ?_))
theorem ln (l : List UInt8) (c : UInt8) : Lib.indexByte l c = if l.contains c then ((l.takeWhile (· != c)).length : Int) else -1 := by
  induction l with
  | nil => rfl
  | cons b l ih =>
    unfold Lib.indexByte
    by_cases h : b = c
    · subst h; simp [List.takeWhile_cons]
    · have h' : ¬ c = b := fun e => h e.symm
      rw [ih]
      by_cases hc : l.contains c = true
      · have hm := List.contains_iff_mem.1 hc
        have hm2 : c ∈ b :: l := List.mem_cons_of_mem _ hm
        simp [h, h', hm, List.takeWhile_cons]
      · have hm : ¬ c ∈ l := fun e => hc (List.contains_iff_mem.2 e)
        simp [h, h', hm]
theorem sq {l : List UInt8} {c : UInt8} (h : ¬ l.contains c = true) : l.takeWhile (· != c) = l := by
  induction l with
  | nil => rfl
  | cons b l ih =>
    have h1 : b ≠ c := fun e => h (by subst e; simp)
    have h2 : ¬ l.contains c = true := fun e => h (List.contains_iff_mem.2 (List.mem_cons_of_mem _ (List.contains_iff_mem.1 e)))
    rw [List.takeWhile_cons, if_pos (by simpa using h1), ih h2]
theorem rV (l : List UInt8) (c : UInt8) : l.take (l.takeWhile (· != c)).length = l.takeWhile (· != c) := (List.prefix_iff_eq_take.1 (List.takeWhile_prefix _)).symm
theorem tA {l : List UInt8} {c : UInt8} (h : l.contains c = true) : (l.takeWhile (· != c)).length < l.length := by
  induction l with
  | nil => simp at h
  | cons b l ih =>
    rw [List.takeWhile_cons]
    split
    · rename_i hb
      have h2 : l.contains c = true := by
        have := List.contains_iff_mem.1 h
        rcases List.mem_cons.1 this with e | e
        · subst e; simp at hb
        · exact List.contains_iff_mem.2 e
      have := ih h2
      simp only [List.length_cons]; omega
    · simp
def bJ : Nat → List Nat
  | 0 => [0, 1]
  | 1 => [0, 1]
  | 2 => [0, 1, 5]
  | 3 => []
  | 4 => [0, 1, 5]
  | 5 => [0, 1]
  | 6 => [0, 1, 5]
  | 7 => []
  | 8 => [0, 1, 5]
  | 9 => [0, 1]
  | 10 => [0, 1, 5]
  | 11 => [0, 1, 5, 6]
  | 12 => [0, 1, 5, 6, 7]
  | 13 => [0, 1, 5, 6, 7, 8]
  | 14 => [0, 1, 5, 6, 7, 8, 9]
  | 15 => [0, 1, 5, 6, 7, 8, 9, 10]
  | 16 => [0, 1, 5, 6, 7, 8, 9, 10]
  | 17 => [0, 1, 5, 6, 7, 8, 9, 10]
  | 18 => [0, 1, 5, 6, 7, 8, 9, 10, 11]
  | 19 => []
  | 20 => [0, 1, 5, 6, 7, 8, 9, 10, 11]
  | 21 => [0, 1, 5, 6, 7, 8, 9, 10]
  | 22 => [8]
  | 23 => [0, 1, 5, 6, 7, 8, 9, 10]
  | 24 => [0, 1, 5, 6, 7, 8, 9, 10]
  | 25 => [0, 1, 5, 6, 7, 8, 9, 10]
  | 26 => [0, 1, 8]
  | 27 => [8, 12]
  | 28 => [8, 12]
  | 29 => []
  | 30 => [0, 1, 5, 6, 7, 8, 9, 10]
  | 31 => [0, 1, 8]
  | 32 => [8, 13]
  | 33 => []
  | 34 => [8, 13]
  | 35 => []
  | _ => []
set_option maxRecDepth 100000 in
set_option maxHeartbeats 4000000 in
theorem rZ (l : List UInt8) (c : UInt8) : AFn Tryd.prog 39 [bs l, bs [c]] [] (.c (.int .i64 (Lib.indexByte l c))) [] := by
  have hi := n5 l c
  unfold bs at hi
  refine aM [] Tryd.func39 rfl Tryd.ntmps39 (Nat.le_of_ble_eq_true rfl) (Nat.le_of_ble_eq_true rfl) fun w0 G0 B0 Pr hB0 => ?_
  simp only [aS, aJ, List.cons_append, List.nil_append, bs]
  by_cases h : [c] = l
  · subst h
    have h1 : Lib.indexByte [c] c = 0 := by simp [Lib.indexByte]
    rw [h1]
    repeat' (first | (with_reducible refine hY _ ?_; clear hY Y) | ((with_reducible first | refine aD rfl (aN fun K' hK' => ab ?_) | refine hK' _ (ac fun Y hY => ab ?_) | refine bV rfl (ac fun Y hY => ab ?_) | refine ac fun Y hY => ab ?_ | refine aN fun K' hK' => ab ?_ | refine ae tk0 bJ (ac fun Y hY => ab ?_) | refine ab ?_ | refine av ?_); (try clear hK' K'); (try dsimp only [aop]); try simp only [go_sem, ↓reduceIte, Nat.reduceEqDiff, Nat.reduceLT, Nat.reduceLeDiff, Nat.reduceAdd, Nat.reduceSub, Nat.reduceMul, Nat.reduceBEq, Nat.reduceBNe, Nat.reducePow, Int.reduceToNat, Int.reduceLE, Int.reduceLT, Int.reduceMul, Int.reduceEq, Int.reducePow, Int.reduceAdd, Int.reduceSub, Int.reduceNeg, reduceCtorEq, bJ, Tryd.results39, beq_self_eq_true]) | (with_reducible first | refine aj ?_ | refine bl ?_ | refine ar ?_ | refine au ?_ | refine aT fun K hK => ?_ | refine aK ?_ | refine bA ?_ | refine b6 ?_ | refine ax ?_ | refine aF ?_) | (with_reducible refine hK _ ?_; clear hK K) | ((with_reducible first | refine bh ?_ ?_ | refine al ?_ ?_); (· decide)) | ((with_reducible refine cu (fun hc => ?_) (fun hc => ?_)) <;> (try simp only [decide_eq_true_eq, decide_eq_false_iff_not, Bool.not_true, Bool.not_false, Bool.not_eq_true', Bool.not_eq_false'] at hc) <;> (try (exfalso; omega))) | (with_reducible refine bE (cm _) ?_))
  · have h1 : ([c] == l) = false := by simpa using h
    repeat' (first | (with_reducible refine hY _ ?_; clear hY Y) | ((with_reducible first | refine aD rfl (aN fun K' hK' => ab ?_) | refine hK' _ (ac fun Y hY => ab ?_) | refine bV rfl (ac fun Y hY => ab ?_) | refine ac fun Y hY => ab ?_ | refine aN fun K' hK' => ab ?_ | refine ae tk0 bJ (ac fun Y hY => ab ?_) | refine ab ?_ | refine av ?_); (try clear hK' K'); (try dsimp only [aop]); try simp only [go_sem, ↓reduceIte, Nat.reduceEqDiff, Nat.reduceLT, Nat.reduceLeDiff, Nat.reduceAdd, Nat.reduceSub, Nat.reduceMul, Nat.reduceBEq, Nat.reduceBNe, Nat.reducePow, Int.reduceToNat, Int.reduceLE, Int.reduceLT, Int.reduceMul, Int.reduceEq, Int.reducePow, Int.reduceAdd, Int.reduceSub, Int.reduceNeg, reduceCtorEq, bJ, Tryd.results39, h1]) | (with_reducible first | refine aj ?_ | refine bl ?_ | refine ar ?_ | refine au ?_ | refine aT fun K hK => ?_ | refine aC ?_ | refine bA ?_ | refine b6 ?_ | refine ax ?_ | refine aF ?_) | (with_reducible refine hK _ ?_; clear hK K) | ((with_reducible first | refine bh ?_ ?_ | refine al ?_ ?_); (· decide)) | ((with_reducible first | refine cu (fun hc => ?_) (fun hc => ?_) | refine dK (fun hc => ?_) (fun hc => ?_)) <;> (try simp only [decide_eq_true_eq, decide_eq_false_iff_not, Bool.not_true, Bool.not_false, Bool.not_eq_true', Bool.not_eq_false'] at hc) <;> (try (exfalso; omega))) | (with_reducible refine bT ?_ ?_; (· (try and_intros) <;> first | omega | assumption | (simp only [List.length_append, List.length_map, List.length_cons, List.length_nil] <;> omega))) | (with_reducible refine bE (cm _) ?_) | (with_reducible refine aa (hi) ?_))
def bD : Nat → List Nat
  | 0 => [0, 1]
  | 1 => [0, 1]
  | 2 => [0, 1, 7]
  | 3 => [0, 1, 7]
  | 4 => [0]
  | _ => []
def fP : Nat → List Nat
  | 0 => [0, 1]
  | 1 => [0, 1]
  | _ => []
def od (l : List UInt8) (c : UInt8) : AV := .tup [bs (l.takeWhile (· != c)), bs (l.drop ((l.takeWhile (· != c)).length + 1)), .c (.bool (l.contains c))]
set_option maxRecDepth 100000 in
set_option maxHeartbeats 4000000 in
theorem sS (l : List UInt8) (c : UInt8) (hl : l.length ≤ 4611686018427387904) : AFn Tryd.prog 21 [bs l, bs [c]] [] (od l c) [] := by
  have hi := rZ l c
  have e := ln l c
  unfold bs at hi
  unfold od
  by_cases hcc : l.contains c = true
  · have hlt := tA hcc
    have ht := rV l c
    rw [if_pos hcc] at e
    rw [e] at hi
    generalize hn : (l.takeWhile (· != c)).length = n at *
    have h0 : ¬ ((n : Int) < 0) := by omega
    have hw : IntKind.i64.wrap ((n : Int) + ((1 : Nat) : Int)) = ((n + 1 : Nat) : Int) := by rw [bX (by omega) (by omega)]; rfl
    refine aM [] Tryd.func21 rfl Tryd.ntmps21 (Nat.le_of_ble_eq_true rfl) (Nat.le_of_ble_eq_true rfl) fun w0 G0 B0 Pr hB0 => ?_
    simp only [aS, aJ, List.cons_append, List.nil_append, bs]
    repeat' (first | (with_reducible refine hY _ ?_; clear hY Y) | ((with_reducible first | refine aD rfl (aN fun K' hK' => ab ?_) | refine hK' _ (ac fun Y hY => ab ?_) | refine ac fun Y hY => ab ?_ | refine ae tk0 bD (ac fun Y hY => ab ?_) | refine ab ?_ | refine av ?_ | refine dg rfl (dp fun K' hK' => ab ?_) | refine hK' _ _ (ac fun Y hY => ab ?_)); (try clear hK' K'); (try dsimp only [aop]); try simp only [go_sem, ↓reduceIte, Nat.reduceEqDiff, Nat.reduceLT, Nat.reduceLeDiff, Nat.reduceAdd, Nat.reduceSub, Nat.reduceMul, Nat.reduceBEq, Nat.reduceBNe, Nat.reducePow, Int.reduceToNat, Int.reduceLE, Int.reduceLT, Int.reduceMul, Int.reduceEq, Int.reducePow, Int.reduceAdd, Int.reduceSub, Int.reduceNeg, reduceCtorEq, bD, Tryd.results21, h0, hw]) | (with_reducible first | refine aj ?_ | refine ar ?_ | refine au ?_ | refine aT fun K hK => ?_ | refine bA ?_ | refine aF ?_ | refine cn ?_ | refine gT fun K hK => ?_) | (with_reducible refine hK _ ?_; clear hK K) | (with_reducible refine hK _ _ ?_ ?_; (· kernel_rfl); clear hK K) | ((with_reducible refine al ?_ ?_); (· decide)) | (with_reducible refine cj tk0 bD ?_ ?_; (· kernel_rfl)) | ((with_reducible refine dK (fun hc => ?_) (fun hc => ?_)) <;> (try simp only [decide_eq_true_eq, decide_eq_false_iff_not, Bool.not_true, Bool.not_false, Bool.not_eq_true', Bool.not_eq_false'] at hc) <;> (try (exfalso; omega))) | (with_reducible refine bT ?_ ?_; (· (try and_intros) <;> first | omega | assumption | (simp only [List.length_append, List.length_map, List.length_cons, List.length_nil] <;> omega))) | (with_reducible refine aa (hi) ?_))
    simp only [bs, ht, hcc, hn]
  · rw [if_neg hcc] at e
    rw [e] at hi
    have ht := sq hcc
    refine aM [] Tryd.func21 rfl Tryd.ntmps21 (Nat.le_of_ble_eq_true rfl) (Nat.le_of_ble_eq_true rfl) fun w0 G0 B0 Pr hB0 => ?_
    simp only [aS, aJ, List.cons_append, List.nil_append, bs]
    repeat' (first | (with_reducible refine hY _ ?_; clear hY Y) | ((with_reducible first | refine aD rfl (aN fun K' hK' => ab ?_) | refine hK' _ (ac fun Y hY => ab ?_) | refine ac fun Y hY => ab ?_ | refine ae tk0 bD (ac fun Y hY => ab ?_) | refine ab ?_ | refine av ?_); (try clear hK' K'); (try dsimp only [aop]); try simp only [go_sem, ↓reduceIte, Nat.reduceEqDiff, Nat.reduceLT, Nat.reduceLeDiff, Nat.reduceAdd, Nat.reduceSub, Nat.reduceMul, Nat.reduceBEq, Nat.reduceBNe, Nat.reducePow, Int.reduceToNat, Int.reduceLE, Int.reduceLT, Int.reduceMul, Int.reduceEq, Int.reducePow, Int.reduceAdd, Int.reduceSub, Int.reduceNeg, reduceCtorEq, bD, Tryd.results21]) | (with_reducible first | refine aj ?_ | refine ar ?_ | refine au ?_ | refine aT fun K hK => ?_ | refine aC ?_ | refine aP ?_ | refine aF ?_) | (with_reducible refine hK _ ?_; clear hK K) | ((with_reducible refine al ?_ ?_); (· decide)) | (with_reducible refine aa (hi) ?_))
    rw [ht, Bool.eq_false_iff.2 hcc]
    simp [bs]
set_option maxRecDepth 100000 in
theorem tT (l : List UInt8) (c : UInt8) (hl : l.length ≤ 4611686018427387904) : AFn Tryd.prog 11 [bs l, bs [c]] [] (od l c) [] := by
  have h := sS l c hl
  unfold bs od bs at h
  unfold od
  refine aM [] Tryd.func11 rfl Tryd.ntmps11 (Nat.le_of_ble_eq_true rfl) (Nat.le_of_ble_eq_true rfl) fun w0 G0 B0 Pr hB0 => ?_
  simp only [aS, aJ, List.cons_append, List.nil_append, bs]
  repeat' (first | (with_reducible refine hY _ ?_; clear hY Y) | ((with_reducible first | refine aD rfl (aN fun K' hK' => ab ?_) | refine hK' _ (ac fun Y hY => ab ?_) | refine ae tk0 fP (ac fun Y hY => ab ?_) | refine ab ?_ | refine av ?_); (try clear hK' K'); (try dsimp only [aop]); try simp only [go_sem, ↓reduceIte, Nat.reduceEqDiff, Nat.reduceLT, Nat.reduceLeDiff, Nat.reduceAdd, Nat.reduceSub, Nat.reduceMul, Nat.reduceBEq, Nat.reduceBNe, Nat.reducePow, Int.reduceToNat, Int.reduceLE, Int.reduceLT, Int.reduceMul, Int.reduceEq, Int.reducePow, Int.reduceAdd, Int.reduceSub, Int.reduceNeg, reduceCtorEq, fP, Tryd.results11]) | (with_reducible first | refine aj ?_ | refine ar ?_ | refine au ?_ | refine aT fun K hK => ?_ | refine aF ?_) | (with_reducible refine hK _ ?_; clear hK K) | (with_reducible refine aa (h) ?_))
def bC : Nat → List Nat
  | 0 => [0, 1]
  | 1 => [0, 1]
  | _ => []
def dv : Nat → List Nat
  | 0 => [0, 1]
  | 1 => [0, 1]
  | _ => []
set_option maxRecDepth 100000 in
set_option maxHeartbeats 4000000 in
theorem oi (l p : List UInt8) : AFn Tryd.prog 20 [bs l, bs p] [] (.c (.bool (p.isPrefixOf l))) [] := by
  have e : p.isPrefixOf l = (decide (p.length ≤ l.length) && (l.take p.length == p)) := by
    rw [Bool.eq_iff_iff, List.isPrefixOf_iff_prefix, List.prefix_iff_eq_take]
    simp only [Bool.and_eq_true, decide_eq_true_eq, beq_iff_eq]
    constructor
    · intro h
      have := congrArg List.length h
      rw [List.length_take] at this
      exact ⟨by omega, h.symm⟩
    · rintro ⟨_, h⟩; exact h.symm
  rw [e]
  refine aM [] Tryd.func20 rfl Tryd.ntmps20 (Nat.le_of_ble_eq_true rfl) (Nat.le_of_ble_eq_true rfl) fun w0 G0 B0 Pr hB0 => ?_
  simp only [aS, aJ, List.cons_append, List.nil_append, bs]
  by_cases h : p.length ≤ l.length
  · have h1 : ((p.length : Int) ≤ (l.length : Int)) = True := by simp; omega
    repeat' (first | (with_reducible refine hY _ ?_; clear hY Y) | ((with_reducible first | refine aD rfl (aN fun K' hK' => ab ?_) | refine hK' _ (ac fun Y hY => ab ?_) | refine bV rfl (ac fun Y hY => ab ?_) | refine ac fun Y hY => ab ?_ | refine aN fun K' hK' => ab ?_ | refine ae tk0 bC (ac fun Y hY => ab ?_) | refine ab ?_ | refine av ?_); (try clear hK' K'); (try dsimp only [aop]); try simp only [go_sem, ↓reduceIte, Nat.reduceEqDiff, Nat.reduceLT, Nat.reduceLeDiff, Nat.reduceAdd, Nat.reduceSub, Nat.reduceMul, Nat.reduceBEq, Nat.reduceBNe, Nat.reducePow, Int.reduceToNat, Int.reduceLE, Int.reduceLT, Int.reduceMul, Int.reduceEq, Int.reducePow, Int.reduceAdd, Int.reduceSub, Int.reduceNeg, reduceCtorEq, bC, Tryd.results20, h1]) | (with_reducible first | refine aj ?_ | refine bl ?_ | refine ar ?_ | refine au ?_ | refine aT fun K hK => ?_ | refine aF ?_) | (with_reducible refine hK _ ?_; clear hK K) | ((with_reducible refine bh ?_ ?_); (· decide)) | (with_reducible refine bT ?_ ?_; (· (try and_intros) <;> first | omega | assumption | (simp only [List.length_append, List.length_map, List.length_cons, List.length_nil] <;> omega))) | (with_reducible refine bE (cm _) ?_))
    simp [h]
  · have h1 : ((p.length : Int) ≤ (l.length : Int)) = False := by simp; omega
    repeat' (first | (with_reducible refine hY _ ?_; clear hY Y) | ((with_reducible first | refine aD rfl (aN fun K' hK' => ab ?_) | refine hK' _ (ac fun Y hY => ab ?_) | refine bV rfl (ac fun Y hY => ab ?_) | refine ac fun Y hY => ab ?_ | refine ae tk0 bC (ac fun Y hY => ab ?_) | refine ab ?_ | refine av ?_); (try clear hK' K'); (try dsimp only [aop]); try simp only [go_sem, ↓reduceIte, Nat.reduceEqDiff, Nat.reduceLT, Nat.reduceLeDiff, Nat.reduceAdd, Nat.reduceSub, Nat.reduceMul, Nat.reduceBEq, Nat.reduceBNe, Nat.reducePow, Int.reduceToNat, Int.reduceLE, Int.reduceLT, Int.reduceMul, Int.reduceEq, Int.reducePow, Int.reduceAdd, Int.reduceSub, Int.reduceNeg, reduceCtorEq, bC, Tryd.results20, h1]) | (with_reducible first | refine aj ?_ | refine bW rfl ?_ | refine fa ?_ ?_ | refine ar ?_ | refine au ?_ | refine aT fun K hK => ?_ | refine aF ?_) | (with_reducible refine hK _ ?_; clear hK K) | ((with_reducible refine bh ?_ ?_); (· decide)))
    simp [h]
set_option maxRecDepth 100000 in
theorem lO (l p : List UInt8) : AFn Tryd.prog 10 [bs l, bs p] [] (.c (.bool (p.isPrefixOf l))) [] := by
  have h := oi l p
  unfold bs at h
  refine aM [] Tryd.func10 rfl Tryd.ntmps10 (Nat.le_of_ble_eq_true rfl) (Nat.le_of_ble_eq_true rfl) fun w0 G0 B0 Pr hB0 => ?_
  simp only [aS, aJ, List.cons_append, List.nil_append, bs]
  repeat' (first | (with_reducible refine hY _ ?_; clear hY Y) | ((with_reducible first | refine aD rfl (aN fun K' hK' => ab ?_) | refine hK' _ (ac fun Y hY => ab ?_) | refine ae tk0 dv (ac fun Y hY => ab ?_) | refine ab ?_ | refine av ?_); (try clear hK' K'); (try dsimp only [aop]); try simp only [go_sem, ↓reduceIte, Nat.reduceEqDiff, Nat.reduceLT, Nat.reduceLeDiff, Nat.reduceAdd, Nat.reduceSub, Nat.reduceMul, Nat.reduceBEq, Nat.reduceBNe, Nat.reducePow, Int.reduceToNat, Int.reduceLE, Int.reduceLT, Int.reduceMul, Int.reduceEq, Int.reducePow, Int.reduceAdd, Int.reduceSub, Int.reduceNeg, reduceCtorEq, dv, Tryd.results10]) | (with_reducible first | refine aj ?_ | refine ar ?_ | refine au ?_ | refine aT fun K hK => ?_ | refine aF ?_) | (with_reducible refine hK _ ?_; clear hK K) | (with_reducible refine aa (h) ?_))
end Go.Proofs.YtpkcgdikbjaoaaaDoor
