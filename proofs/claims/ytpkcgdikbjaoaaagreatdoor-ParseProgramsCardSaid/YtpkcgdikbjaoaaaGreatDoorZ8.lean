/- Texts as lists of bytes, in K. -/
import Derived.Test.YtpkcgdikbjaoaaaGreatDoorZ7
import Derived.Laws.Cover1
namespace Go.Proofs.YtpkcgdikbjaoaaaGreatDoor
set_option linter.unusedSimpArgs false
set_option linter.unusedVariables false
open Go.RowKit
attribute [go_sem] bs List.size_toArray
@[go_sem] theorem Av (l : List UInt8) : (ByteArray.mk l.toArray).size = l.length := rfl
@[go_sem] theorem Ay (l : List UInt8) : (ByteArray.mk l.toArray).data.toList = l := rfl
@[go_sem] theorem z9 (l : List UInt8) : (ByteArray.mk l.toArray).toList = l := by
  rw [Lib.toList_data]
attribute [go_sem] ByteArray.extract_mk
@[go_sem] theorem zz (l : List UInt8) (a : Nat) : (l.drop a).take (l.length - a) = l.drop a := List.take_of_length_le (by simp)
theorem ye (l : List UInt8) (c : UInt8) : ∀ w, (callFunc 93 #[.string ⟨l.toArray⟩, .int .u8 (c.toNat : Int)]).run Tryz.prog w = .ok (.value (.int .i64 (Lib.indexByte l c))) w := fun w => by
  rw [@run_callFunc_indexByte Tryz.prog 93 _ Tryz.func93 (by kernel_rfl) (by kernel_rfl) (by kernel_rfl) (by kernel_rfl), Lib.run_indexByteString]
  simp [Result.andThen]
def dO : Nat → List Nat
  | 0 => [0, 1]
  | 1 => [0, 1]
  | _ => []
set_option maxRecDepth 100000 in
theorem tG (l : List UInt8) (c : UInt8) : AFn Tryz.prog 76 [bs l, .c (.int .u8 (c.toNat : Int))] [] (.c (.int .i64 (Lib.indexByte l c))) [] := by
  refine aK [] Tryz.func76 rfl Tryz.ntmps76 (Nat.le_of_ble_eq_true rfl) (Nat.le_of_ble_eq_true rfl) fun w0 G0 B0 Pr hB0 => ?_
  simp only [aQ, aI, List.cons_append, List.nil_append, bs]
  repeat' (first | (with_reducible refine hY _ ?_; clear hY Y) | ((with_reducible first | refine av rfl (aD fun K' hK' => ab ?_) | refine hK' _ (ac fun Y hY => ab ?_) | refine ae tk0 dO (ac fun Y hY => ab ?_) | refine ab ?_ | refine ap ?_); (try clear hK' K'); (try dsimp only [aop]); try simp only [go_sem, ↓reduceIte, Nat.reduceEqDiff, Nat.reduceLT, Nat.reduceLeDiff, Nat.reduceAdd, Nat.reduceSub, Nat.reduceMul, Nat.reduceBEq, Nat.reduceBNe, Nat.reducePow, Int.reduceToNat, Int.reduceLE, Int.reduceLT, Int.reduceMul, Int.reduceEq, Int.reducePow, Int.reduceAdd, Int.reduceSub, Int.reduceNeg, reduceCtorEq, dO, Tryz.results76]) | (with_reducible first | refine ai ?_ | refine al ?_ | refine am ?_ | refine aL fun K hK => ?_ | refine az ?_) | (with_reducible refine hK _ ?_; clear hK K) | (with_reducible refine yQ (ye l c) ?_))
theorem pC (l : List UInt8) (c : UInt8) : Lib.indexByte l c = if l.contains c then ((l.takeWhile (· != c)).length : Int) else -1 := by
  induction l with
  | nil => rfl
  | cons b l ih =>
    unfold Lib.indexByte
    by_cases h : b = c
    · subst h; simp [List.takeWhile_cons]
    · have h' : ¬ c = b := fun e => h e.symm
      rw [ih]
      by_cases hc : l.contains c = true
      · have hm := List.contains_iff_mem.1 hc
        have hm2 : c ∈ b :: l := List.mem_cons_of_mem _ hm
        simp [h, h', hm, List.takeWhile_cons]
      · have hm : ¬ c ∈ l := fun e => hc (List.contains_iff_mem.2 e)
        simp [h, h', hm]
theorem yH {l : List UInt8} {c : UInt8} (h : ¬ l.contains c = true) : l.takeWhile (· != c) = l := by
  induction l with
  | nil => rfl
  | cons b l ih =>
    have h1 : b ≠ c := fun e => h (by subst e; simp)
    have h2 : ¬ l.contains c = true := fun e => h (List.contains_iff_mem.2 (List.mem_cons_of_mem _ (List.contains_iff_mem.1 e)))
    rw [List.takeWhile_cons, if_pos (by simpa using h1), ih h2]
theorem xM (l : List UInt8) (c : UInt8) : l.take (l.takeWhile (· != c)).length = l.takeWhile (· != c) := (List.prefix_iff_eq_take.1 (List.takeWhile_prefix _)).symm
theorem z5 {l : List UInt8} {c : UInt8} (h : l.contains c = true) : (l.takeWhile (· != c)).length < l.length := by
  induction l with
  | nil => simp at h
  | cons b l ih =>
    rw [List.takeWhile_cons]
    split
    · rename_i hb
      have h2 : l.contains c = true := by
        have := List.contains_iff_mem.1 h
        rcases List.mem_cons.1 this with e | e
        · subst e; simp at hb
        · exact List.contains_iff_mem.2 e
      have := ih h2
      simp only [List.length_cons]; omega
    · simp
def cZ : Nat → List Nat
  | 0 => [0, 1]
  | 1 => [0, 1]
  | 2 => [0, 1, 5]
  | 3 => []
  | 4 => [0, 1, 5]
  | 5 => [0, 1]
  | 6 => [0, 1, 5]
  | 7 => []
  | 8 => [0, 1, 5]
  | 9 => [0, 1]
  | 10 => [0, 1, 5]
  | 11 => [0, 1, 5, 6]
  | 12 => [0, 1, 5, 6, 7]
  | 13 => [0, 1, 5, 6, 7, 8]
  | 14 => [0, 1, 5, 6, 7, 8, 9]
  | 15 => [0, 1, 5, 6, 7, 8, 9, 10]
  | 16 => [0, 1, 5, 6, 7, 8, 9, 10]
  | 17 => [0, 1, 5, 6, 7, 8, 9, 10]
  | 18 => [0, 1, 5, 6, 7, 8, 9, 10, 11]
  | 19 => []
  | 20 => [0, 1, 5, 6, 7, 8, 9, 10, 11]
  | 21 => [0, 1, 5, 6, 7, 8, 9, 10]
  | 22 => [8]
  | 23 => [0, 1, 5, 6, 7, 8, 9, 10]
  | 24 => [0, 1, 5, 6, 7, 8, 9, 10]
  | 25 => [0, 1, 5, 6, 7, 8, 9, 10]
  | 26 => [0, 1, 8]
  | 27 => [8, 12]
  | 28 => [8, 12]
  | 29 => []
  | 30 => [0, 1, 5, 6, 7, 8, 9, 10]
  | 31 => [0, 1, 8]
  | 32 => [8, 13]
  | 33 => []
  | 34 => [8, 13]
  | 35 => []
  | _ => []
set_option maxRecDepth 100000 in
set_option maxHeartbeats 4000000 in
theorem wQ (l : List UInt8) (c : UInt8) : AFn Tryz.prog 77 [bs l, bs [c]] [] (.c (.int .i64 (Lib.indexByte l c))) [] := by
  have hi := tG l c
  unfold bs at hi
  refine aK [] Tryz.func77 rfl Tryz.ntmps77 (Nat.le_of_ble_eq_true rfl) (Nat.le_of_ble_eq_true rfl) fun w0 G0 B0 Pr hB0 => ?_
  simp only [aQ, aI, List.cons_append, List.nil_append, bs]
  by_cases h : [c] = l
  · subst h
    have h1 : Lib.indexByte [c] c = 0 := by simp [Lib.indexByte]
    rw [h1]
    repeat' (first | (with_reducible refine hY _ ?_; clear hY Y) | ((with_reducible first | refine av rfl (aD fun K' hK' => ab ?_) | refine hK' _ (ac fun Y hY => ab ?_) | refine bR rfl (ac fun Y hY => ab ?_) | refine ac fun Y hY => ab ?_ | refine aD fun K' hK' => ab ?_ | refine ae tk0 cZ (ac fun Y hY => ab ?_) | refine ab ?_ | refine ap ?_); (try clear hK' K'); (try dsimp only [aop]); try simp only [go_sem, ↓reduceIte, Nat.reduceEqDiff, Nat.reduceLT, Nat.reduceLeDiff, Nat.reduceAdd, Nat.reduceSub, Nat.reduceMul, Nat.reduceBEq, Nat.reduceBNe, Nat.reducePow, Int.reduceToNat, Int.reduceLE, Int.reduceLT, Int.reduceMul, Int.reduceEq, Int.reducePow, Int.reduceAdd, Int.reduceSub, Int.reduceNeg, reduceCtorEq, cZ, Tryz.results77, beq_self_eq_true]) | (with_reducible first | refine ai ?_ | refine aS ?_ | refine al ?_ | refine am ?_ | refine aL fun K hK => ?_ | refine ax ?_ | refine bg ?_ | refine bL ?_ | refine aq ?_ | refine az ?_) | (with_reducible refine hK _ ?_; clear hK K) | ((with_reducible first | refine aR ?_ ?_ | refine ah ?_ ?_); (· decide)) | ((with_reducible refine bK (fun hc => ?_) (fun hc => ?_)) <;> (try simp only [decide_eq_true_eq, decide_eq_false_iff_not, Bool.not_true, Bool.not_false, Bool.not_eq_true', Bool.not_eq_false'] at hc) <;> (try (exfalso; omega))) | (with_reducible refine be (aU _) ?_))
  · have h1 : ([c] == l) = false := by simpa using h
    repeat' (first | (with_reducible refine hY _ ?_; clear hY Y) | ((with_reducible first | refine av rfl (aD fun K' hK' => ab ?_) | refine hK' _ (ac fun Y hY => ab ?_) | refine bR rfl (ac fun Y hY => ab ?_) | refine ac fun Y hY => ab ?_ | refine aD fun K' hK' => ab ?_ | refine ae tk0 cZ (ac fun Y hY => ab ?_) | refine ab ?_ | refine ap ?_); (try clear hK' K'); (try dsimp only [aop]); try simp only [go_sem, ↓reduceIte, Nat.reduceEqDiff, Nat.reduceLT, Nat.reduceLeDiff, Nat.reduceAdd, Nat.reduceSub, Nat.reduceMul, Nat.reduceBEq, Nat.reduceBNe, Nat.reducePow, Int.reduceToNat, Int.reduceLE, Int.reduceLT, Int.reduceMul, Int.reduceEq, Int.reducePow, Int.reduceAdd, Int.reduceSub, Int.reduceNeg, reduceCtorEq, cZ, Tryz.results77, h1]) | (with_reducible first | refine ai ?_ | refine aS ?_ | refine al ?_ | refine am ?_ | refine aL fun K hK => ?_ | refine ar ?_ | refine bg ?_ | refine bL ?_ | refine aq ?_ | refine az ?_) | (with_reducible refine hK _ ?_; clear hK K) | ((with_reducible first | refine aR ?_ ?_ | refine ah ?_ ?_); (· decide)) | ((with_reducible first | refine bK (fun hc => ?_) (fun hc => ?_) | refine bV (fun hc => ?_) (fun hc => ?_)) <;> (try simp only [decide_eq_true_eq, decide_eq_false_iff_not, Bool.not_true, Bool.not_false, Bool.not_eq_true', Bool.not_eq_false'] at hc) <;> (try (exfalso; omega))) | (with_reducible refine bQ ?_ ?_; (· (try and_intros) <;> first | omega | assumption | (simp only [List.length_append, List.length_map, List.length_cons, List.length_nil] <;> omega))) | (with_reducible refine be (aU _) ?_) | (with_reducible refine aa (hi) ?_))
def cQ : Nat → List Nat
  | 0 => [0, 1]
  | 1 => [0, 1]
  | 2 => [0, 1, 7]
  | 3 => [0, 1, 7]
  | 4 => [0]
  | _ => []
def i7 : Nat → List Nat
  | 0 => [0, 1]
  | 1 => [0, 1]
  | _ => []
def tP (l : List UInt8) (c : UInt8) : AV := .tup [bs (l.takeWhile (· != c)), bs (l.drop ((l.takeWhile (· != c)).length + 1)), .c (.bool (l.contains c))]
set_option maxRecDepth 100000 in
set_option maxHeartbeats 4000000 in
theorem zk (l : List UInt8) (c : UInt8) (hl : l.length ≤ 4611686018427387904) : AFn Tryz.prog 57 [bs l, bs [c]] [] (tP l c) [] := by
  have hi := wQ l c
  have e := pC l c
  unfold bs at hi
  unfold tP
  by_cases hcc : l.contains c = true
  · have hlt := z5 hcc
    have ht := xM l c
    rw [if_pos hcc] at e
    rw [e] at hi
    generalize hn : (l.takeWhile (· != c)).length = n at *
    have h0 : ¬ ((n : Int) < 0) := by omega
    have hw : IntKind.i64.wrap ((n : Int) + ((1 : Nat) : Int)) = ((n + 1 : Nat) : Int) := by rw [bO (by omega) (by omega)]; rfl
    refine aK [] Tryz.func57 rfl Tryz.ntmps57 (Nat.le_of_ble_eq_true rfl) (Nat.le_of_ble_eq_true rfl) fun w0 G0 B0 Pr hB0 => ?_
    simp only [aQ, aI, List.cons_append, List.nil_append, bs]
    repeat' (first | (with_reducible refine hY _ ?_; clear hY Y) | ((with_reducible first | refine av rfl (aD fun K' hK' => ab ?_) | refine hK' _ (ac fun Y hY => ab ?_) | refine ac fun Y hY => ab ?_ | refine ae tk0 cQ (ac fun Y hY => ab ?_) | refine ab ?_ | refine ap ?_ | refine bY rfl (bI fun K' hK' => ab ?_) | refine hK' _ _ (ac fun Y hY => ab ?_)); (try clear hK' K'); (try dsimp only [aop]); try simp only [go_sem, ↓reduceIte, Nat.reduceEqDiff, Nat.reduceLT, Nat.reduceLeDiff, Nat.reduceAdd, Nat.reduceSub, Nat.reduceMul, Nat.reduceBEq, Nat.reduceBNe, Nat.reducePow, Int.reduceToNat, Int.reduceLE, Int.reduceLT, Int.reduceMul, Int.reduceEq, Int.reducePow, Int.reduceAdd, Int.reduceSub, Int.reduceNeg, reduceCtorEq, cQ, Tryz.results57, h0, hw]) | (with_reducible first | refine ai ?_ | refine al ?_ | refine am ?_ | refine aL fun K hK => ?_ | refine bg ?_ | refine az ?_ | refine bl ?_ | refine dq fun K hK => ?_) | (with_reducible refine hK _ ?_; clear hK K) | (with_reducible refine hK _ _ ?_ ?_; (· kernel_rfl); clear hK K) | ((with_reducible refine ah ?_ ?_); (· decide)) | (with_reducible refine bm tk0 cQ ?_ ?_; (· kernel_rfl)) | ((with_reducible refine bV (fun hc => ?_) (fun hc => ?_)) <;> (try simp only [decide_eq_true_eq, decide_eq_false_iff_not, Bool.not_true, Bool.not_false, Bool.not_eq_true', Bool.not_eq_false'] at hc) <;> (try (exfalso; omega))) | (with_reducible refine bQ ?_ ?_; (· (try and_intros) <;> first | omega | assumption | (simp only [List.length_append, List.length_map, List.length_cons, List.length_nil] <;> omega))) | (with_reducible refine aa (hi) ?_))
    simp only [bs, ht, hcc, hn]
  · rw [if_neg hcc] at e
    rw [e] at hi
    have ht := yH hcc
    refine aK [] Tryz.func57 rfl Tryz.ntmps57 (Nat.le_of_ble_eq_true rfl) (Nat.le_of_ble_eq_true rfl) fun w0 G0 B0 Pr hB0 => ?_
    simp only [aQ, aI, List.cons_append, List.nil_append, bs]
    repeat' (first | (with_reducible refine hY _ ?_; clear hY Y) | ((with_reducible first | refine av rfl (aD fun K' hK' => ab ?_) | refine hK' _ (ac fun Y hY => ab ?_) | refine ac fun Y hY => ab ?_ | refine ae tk0 cQ (ac fun Y hY => ab ?_) | refine ab ?_ | refine ap ?_); (try clear hK' K'); (try dsimp only [aop]); try simp only [go_sem, ↓reduceIte, Nat.reduceEqDiff, Nat.reduceLT, Nat.reduceLeDiff, Nat.reduceAdd, Nat.reduceSub, Nat.reduceMul, Nat.reduceBEq, Nat.reduceBNe, Nat.reducePow, Int.reduceToNat, Int.reduceLE, Int.reduceLT, Int.reduceMul, Int.reduceEq, Int.reducePow, Int.reduceAdd, Int.reduceSub, Int.reduceNeg, reduceCtorEq, cQ, Tryz.results57]) | (with_reducible first | refine ai ?_ | refine al ?_ | refine am ?_ | refine aL fun K hK => ?_ | refine ar ?_ | refine aC ?_ | refine az ?_) | (with_reducible refine hK _ ?_; clear hK K) | ((with_reducible refine ah ?_ ?_); (· decide)) | (with_reducible refine aa (hi) ?_))
    rw [ht, Bool.eq_false_iff.2 hcc]
    simp [bs]
set_option maxRecDepth 100000 in
theorem Ad (l : List UInt8) (c : UInt8) (hl : l.length ≤ 4611686018427387904) : AFn Tryz.prog 27 [bs l, bs [c]] [] (tP l c) [] := by
  have h := zk l c hl
  unfold bs tP bs at h
  unfold tP
  refine aK [] Tryz.func27 rfl Tryz.ntmps27 (Nat.le_of_ble_eq_true rfl) (Nat.le_of_ble_eq_true rfl) fun w0 G0 B0 Pr hB0 => ?_
  simp only [aQ, aI, List.cons_append, List.nil_append, bs]
  repeat' (first | (with_reducible refine hY _ ?_; clear hY Y) | ((with_reducible first | refine av rfl (aD fun K' hK' => ab ?_) | refine hK' _ (ac fun Y hY => ab ?_) | refine ae tk0 i7 (ac fun Y hY => ab ?_) | refine ab ?_ | refine ap ?_); (try clear hK' K'); (try dsimp only [aop]); try simp only [go_sem, ↓reduceIte, Nat.reduceEqDiff, Nat.reduceLT, Nat.reduceLeDiff, Nat.reduceAdd, Nat.reduceSub, Nat.reduceMul, Nat.reduceBEq, Nat.reduceBNe, Nat.reducePow, Int.reduceToNat, Int.reduceLE, Int.reduceLT, Int.reduceMul, Int.reduceEq, Int.reducePow, Int.reduceAdd, Int.reduceSub, Int.reduceNeg, reduceCtorEq, i7, Tryz.results27]) | (with_reducible first | refine ai ?_ | refine al ?_ | refine am ?_ | refine aL fun K hK => ?_ | refine az ?_) | (with_reducible refine hK _ ?_; clear hK K) | (with_reducible refine aa (h) ?_))
def cP : Nat → List Nat
  | 0 => [0, 1]
  | 1 => [0, 1]
  | _ => []
def fM : Nat → List Nat
  | 0 => [0, 1]
  | 1 => [0, 1]
  | _ => []
set_option maxRecDepth 100000 in
set_option maxHeartbeats 4000000 in
theorem uk (l p : List UInt8) : AFn Tryz.prog 56 [bs l, bs p] [] (.c (.bool (p.isPrefixOf l))) [] := by
  have e : p.isPrefixOf l = (decide (p.length ≤ l.length) && (l.take p.length == p)) := by
    rw [Bool.eq_iff_iff, List.isPrefixOf_iff_prefix, List.prefix_iff_eq_take]
    simp only [Bool.and_eq_true, decide_eq_true_eq, beq_iff_eq]
    constructor
    · intro h
      have := congrArg List.length h
      rw [List.length_take] at this
      exact ⟨by omega, h.symm⟩
    · rintro ⟨_, h⟩; exact h.symm
  rw [e]
  refine aK [] Tryz.func56 rfl Tryz.ntmps56 (Nat.le_of_ble_eq_true rfl) (Nat.le_of_ble_eq_true rfl) fun w0 G0 B0 Pr hB0 => ?_
  simp only [aQ, aI, List.cons_append, List.nil_append, bs]
  by_cases h : p.length ≤ l.length
  · have h1 : ((p.length : Int) ≤ (l.length : Int)) = True := by simp; omega
    repeat' (first | (with_reducible refine hY _ ?_; clear hY Y) | ((with_reducible first | refine av rfl (aD fun K' hK' => ab ?_) | refine hK' _ (ac fun Y hY => ab ?_) | refine bR rfl (ac fun Y hY => ab ?_) | refine ac fun Y hY => ab ?_ | refine aD fun K' hK' => ab ?_ | refine ae tk0 cP (ac fun Y hY => ab ?_) | refine ab ?_ | refine ap ?_); (try clear hK' K'); (try dsimp only [aop]); try simp only [go_sem, ↓reduceIte, Nat.reduceEqDiff, Nat.reduceLT, Nat.reduceLeDiff, Nat.reduceAdd, Nat.reduceSub, Nat.reduceMul, Nat.reduceBEq, Nat.reduceBNe, Nat.reducePow, Int.reduceToNat, Int.reduceLE, Int.reduceLT, Int.reduceMul, Int.reduceEq, Int.reducePow, Int.reduceAdd, Int.reduceSub, Int.reduceNeg, reduceCtorEq, cP, Tryz.results56, h1]) | (with_reducible first | refine ai ?_ | refine aS ?_ | refine al ?_ | refine am ?_ | refine aL fun K hK => ?_ | refine az ?_) | (with_reducible refine hK _ ?_; clear hK K) | ((with_reducible refine aR ?_ ?_); (· decide)) | (with_reducible refine bQ ?_ ?_; (· (try and_intros) <;> first | omega | assumption | (simp only [List.length_append, List.length_map, List.length_cons, List.length_nil] <;> omega))) | (with_reducible refine be (aU _) ?_))
    simp [h]
  · have h1 : ((p.length : Int) ≤ (l.length : Int)) = False := by simp; omega
    repeat' (first | (with_reducible refine hY _ ?_; clear hY Y) | ((with_reducible first | refine av rfl (aD fun K' hK' => ab ?_) | refine hK' _ (ac fun Y hY => ab ?_) | refine bR rfl (ac fun Y hY => ab ?_) | refine ac fun Y hY => ab ?_ | refine ae tk0 cP (ac fun Y hY => ab ?_) | refine ab ?_ | refine ap ?_); (try clear hK' K'); (try dsimp only [aop]); try simp only [go_sem, ↓reduceIte, Nat.reduceEqDiff, Nat.reduceLT, Nat.reduceLeDiff, Nat.reduceAdd, Nat.reduceSub, Nat.reduceMul, Nat.reduceBEq, Nat.reduceBNe, Nat.reducePow, Int.reduceToNat, Int.reduceLE, Int.reduceLT, Int.reduceMul, Int.reduceEq, Int.reducePow, Int.reduceAdd, Int.reduceSub, Int.reduceNeg, reduceCtorEq, cP, Tryz.results56, h1]) | (with_reducible first | refine ai ?_ | refine bj rfl ?_ | refine dk ?_ ?_ | refine al ?_ | refine am ?_ | refine aL fun K hK => ?_ | refine az ?_) | (with_reducible refine hK _ ?_; clear hK K) | ((with_reducible refine aR ?_ ?_); (· decide)))
    simp [h]
set_option maxRecDepth 100000 in
theorem qO (l p : List UInt8) : AFn Tryz.prog 26 [bs l, bs p] [] (.c (.bool (p.isPrefixOf l))) [] := by
  have h := uk l p
  unfold bs at h
  refine aK [] Tryz.func26 rfl Tryz.ntmps26 (Nat.le_of_ble_eq_true rfl) (Nat.le_of_ble_eq_true rfl) fun w0 G0 B0 Pr hB0 => ?_
  simp only [aQ, aI, List.cons_append, List.nil_append, bs]
  repeat' (first | (with_reducible refine hY _ ?_; clear hY Y) | ((with_reducible first | refine av rfl (aD fun K' hK' => ab ?_) | refine hK' _ (ac fun Y hY => ab ?_) | refine ae tk0 fM (ac fun Y hY => ab ?_) | refine ab ?_ | refine ap ?_); (try clear hK' K'); (try dsimp only [aop]); try simp only [go_sem, ↓reduceIte, Nat.reduceEqDiff, Nat.reduceLT, Nat.reduceLeDiff, Nat.reduceAdd, Nat.reduceSub, Nat.reduceMul, Nat.reduceBEq, Nat.reduceBNe, Nat.reducePow, Int.reduceToNat, Int.reduceLE, Int.reduceLT, Int.reduceMul, Int.reduceEq, Int.reducePow, Int.reduceAdd, Int.reduceSub, Int.reduceNeg, reduceCtorEq, fM, Tryz.results26]) | (with_reducible first | refine ai ?_ | refine al ?_ | refine am ?_ | refine aL fun K hK => ?_ | refine az ?_) | (with_reducible refine hK _ ?_; clear hK K) | (with_reducible refine aa (h) ?_))
end Go.Proofs.YtpkcgdikbjaoaaaGreatDoor
