/- pack's writers in K, on a row of one's own (printed by gen_po.py). -/
import Derived.Test.YtjgfhblciapkfaaPWrB
namespace Go.Proofs.Ytjgfhblciapkfaa
set_option linter.unusedSimpArgs false
set_option linter.unusedVariables false
open Go.RowKit
/-- A row of one's own, of so many cells. -/
abbrev rowA (b : Nat) (xs : List Nat) : AV := .ow b 0 xs.length xs.length
theorem mapB_exp (ex : List Nat) (σ : AMap) (k : Nat) : ∀ xs : List Nat, (xs.map byteN).map (expA ex σ (k + 1)) = xs.map byteN
  | [] => rfl
  | x :: r => by rw [List.map_cons, List.map_cons, mapB_exp ex σ k r]; rfl
theorem mapB_ren (g : List (Nat × Nat)) (k : Nat) : ∀ xs : List Nat, (xs.map byteN).map (ren g (k + 1)) = xs.map byteN
  | [] => rfl
  | x :: r => by rw [List.map_cons, List.map_cons, mapB_ren g k r]; rfl
theorem mapB_ref (b k : Nat) : ∀ xs : List Nat, (xs.map byteN).any (hasRef b (k + 1)) = false
  | [] => rfl
  | x :: r => by rw [List.map_cons, List.any_cons, mapB_ref b k r]; rfl
theorem mapB_nm (t : Bool) (k : Nat) : ∀ xs : List Nat, (xs.map byteN).flatMap (names t (k + 1)) = []
  | [] => rfl
  | x :: r => by rw [List.map_cons, List.flatMap_cons, mapB_nm t k r]; rfl
theorem mapB_exp4 (ex : List Nat) (σ : AMap) (xs : List Nat) : (xs.map byteN).map (expA ex σ 4) = xs.map byteN := mapB_exp ex σ 3 xs
theorem mapB_ren4 (g : List (Nat × Nat)) (xs : List Nat) : (xs.map byteN).map (ren g 4) = xs.map byteN := mapB_ren g 3 xs
theorem mapB_ref4 (b : Nat) (xs : List Nat) : (xs.map byteN).any (hasRef b 4) = false := mapB_ref b 3 xs
theorem mapB_nm3 (t : Bool) (xs : List Nat) : (xs.map byteN).flatMap (names t 3) = [] := mapB_nm t 2 xs
theorem mapT_ren (g : List (Nat × Nat)) (k : Nat) : ∀ xs : List UInt8, (xs.map byteA).map (ren g (k + 1)) = xs.map byteA
  | [] => rfl
  | x :: r => by rw [List.map_cons, List.map_cons, mapT_ren g k r]; rfl
theorem mapT_ref (b k : Nat) : ∀ xs : List UInt8, (xs.map byteA).any (hasRef b (k + 1)) = false
  | [] => rfl
  | x :: r => by rw [List.map_cons, List.any_cons, mapT_ref b k r]; rfl
theorem mapT_nm (t : Bool) (k : Nat) : ∀ xs : List UInt8, (xs.map byteA).flatMap (names t (k + 1)) = []
  | [] => rfl
  | x :: r => by rw [List.map_cons, List.flatMap_cons, mapT_nm t k r]; rfl
theorem mapT_ren4 (g : List (Nat × Nat)) (xs : List UInt8) : (xs.map byteA).map (ren g 4) = xs.map byteA := mapT_ren g 3 xs
theorem mapT_ref4 (b : Nat) (xs : List UInt8) : (xs.map byteA).any (hasRef b 4) = false := mapT_ref b 3 xs
theorem mapT_nm3 (t : Bool) (xs : List UInt8) : (xs.map byteA).flatMap (names t 3) = [] := mapT_nm t 2 xs
attribute [go_sem] mapT_ren mapT_ref mapT_nm mapT_ren4 mapT_ref4 mapT_nm3
theorem app_ren (g : List (Nat × Nat)) (k : Nat) (a b : List AV) : (a ++ b).map (ren g k) = a.map (ren g k) ++ b.map (ren g k) := List.map_append ..
theorem app_exp (ex : List Nat) (σ : AMap) (k : Nat) (a b : List AV) : (a ++ b).map (expA ex σ k) = a.map (expA ex σ k) ++ b.map (expA ex σ k) := List.map_append ..
theorem app_nm (t : Bool) (k : Nat) (a b : List AV) : (a ++ b).flatMap (names t k) = a.flatMap (names t k) ++ b.flatMap (names t k) := List.flatMap_append ..
attribute [go_sem] mapB_exp mapB_ren mapB_ref mapB_nm mapB_exp4 mapB_ren4 mapB_ref4 mapB_nm3
attribute [local go_sem] List.any_append app_ren app_exp app_nm
theorem number_o (xs : List Nat) (z : Int) (hz1 : -9223372036854775808 ≤ z) (hz2 : z ≤ 9223372036854775807) (hl : xs.length + 10 ≤ 140737488355328) :
    AFn Try.prog 15 [.ow 20000 0 xs.length xs.length, .c (.int .i64 z)] [.br (xs.map byteN) xs.length 5 1]
      (.ow 20000 0 (xs ++ num z).length (xs ++ num z).length) [.br ((xs ++ num z).map byteN) (xs ++ num z).length 5 1] := by
  refine afn_of [] Try.func15 rfl Try.ntmps15 (Nat.le_of_ble_eq_true rfl) (Nat.le_of_ble_eq_true rfl) fun w0 G0 B0 Pr hB0 => ?_
  refine aw_seq ?_
  refine aw_regionL tk0 [0, 1] (fun K hK => ?_)
  simp only [go_sem, ↓reduceIte, Nat.reduceEqDiff, Nat.reduceLT, Nat.reduceLeDiff, Nat.reduceAdd, Nat.reduceSub, Nat.reduceMul, Nat.reduceBEq, Nat.reduceBNe, Nat.reducePow, Int.reduceToNat, Int.reduceLE, Int.reduceLT, Int.reduceMul, Int.reduceEq, Int.reducePow, Int.reduceAdd, Int.reduceSub, Int.reduceNeg, reduceCtorEq]
  refine hK _ (then_n (aw_seq ?_))
  clear hK K
  refine aw_regionL tk0 [0, 1] (fun K hK => ?_)
  simp only [go_sem, ↓reduceIte, Nat.reduceEqDiff, Nat.reduceLT, Nat.reduceLeDiff, Nat.reduceAdd, Nat.reduceSub, Nat.reduceMul, Nat.reduceBEq, Nat.reduceBNe, Nat.reducePow, Int.reduceToNat, Int.reduceLE, Int.reduceLT, Int.reduceMul, Int.reduceEq, Int.reducePow, Int.reduceAdd, Int.reduceSub, Int.reduceNeg, reduceCtorEq]
  refine hK _ (then_n (aw_seq (aw_block (aw_loop ?_))))
  clear hK K
  refine awl_ind (α := Nat × List Nat) (fun p => [(0, .ow 20000 0 (xs ++ p.2).length (xs ++ p.2).length), (5, .c (.int .u64 (p.1 : Int))), (20000, .br ((xs ++ p.2).map byteN) (xs ++ p.2).length 5 1)])
    (fun p => p.1 < 18446744073709551616 ∧ p.2 ++ nb p.1 = num z ∧ p.2.length + (nb p.1).length ≤ 10) (fun p => p.1) (zig z, []) [0, 5] ?_ ?_ ?_
  · simp only [go_sem, ↓reduceIte, Nat.reduceEqDiff, Nat.reduceLT, Nat.reduceLeDiff, Nat.reduceAdd, Nat.reduceSub, Nat.reduceMul, Nat.reduceBEq, Nat.reduceBNe, Nat.reducePow, Int.reduceToNat, Int.reduceLE, Int.reduceLT, Int.reduceMul, Int.reduceEq, Int.reducePow, Int.reduceAdd, Int.reduceSub, Int.reduceNeg, reduceCtorEq]
    have e := zig_bits hz1 hz2
    rw [← Int.fdiv_eq_ediv_of_nonneg z (by decide)] at e
    rw [e]
  · exact ⟨zig_lt ⟨hz1, hz2⟩, by simp [num], by simpa using nb_len10 (zig_lt ⟨hz1, hz2⟩)⟩
  · rintro ⟨N, pre⟩ ⟨hN, hp, hlen⟩ ih
    have hap : (xs ++ pre).length = xs.length + pre.length := List.length_append
    refine aw_seq (aw_seq ?_)
    simp only at ih hN hp hlen ⊢
    refine aw_regionL tk0 [0, 5] (fun K hK => ?_)
    simp only [go_sem, ↓reduceIte, Nat.reduceEqDiff, Nat.reduceLT, Nat.reduceLeDiff, Nat.reduceAdd, Nat.reduceSub, Nat.reduceMul, Nat.reduceBEq, Nat.reduceBNe, Nat.reducePow, Int.reduceToNat, Int.reduceLE, Int.reduceLT, Int.reduceMul, Int.reduceEq, Int.reducePow, Int.reduceAdd, Int.reduceSub, Int.reduceNeg, reduceCtorEq]
    refine hK _ (then_n ?_)
    clear hK K
    refine aw_cond (by decide) rfl (fun hc => ?_) (fun hc => ?_)
    · have hlt : ¬ N < 128 := by simp at hc; omega
      rw [nb_big hlt] at hp hlen
      simp only [List.length_cons] at hlen
      refine aw_skip (then_n (aw_block (aw_seq ?_)))
      refine aw_regionL tk0 [0, 5] (fun K hK => ?_)
      simp only [go_sem, ↓reduceIte, Nat.reduceEqDiff, Nat.reduceLT, Nat.reduceLeDiff, Nat.reduceAdd, Nat.reduceSub, Nat.reduceMul, Nat.reduceBEq, Nat.reduceBNe, Nat.reducePow, Int.reduceToNat, Int.reduceLE, Int.reduceLT, Int.reduceMul, Int.reduceEq, Int.reducePow, Int.reduceAdd, Int.reduceSub, Int.reduceNeg, reduceCtorEq]
      refine ⟨⟨by omega, by omega⟩, Nat.le_refl _, hK _ (then_n ?_)⟩
      clear hK K
      refine aw_regionL tk0 [0, 5] (fun K hK => ?_)
      simp only [go_sem, ↓reduceIte, Nat.reduceEqDiff, Nat.reduceLT, Nat.reduceLeDiff, Nat.reduceAdd, Nat.reduceSub, Nat.reduceMul, Nat.reduceBEq, Nat.reduceBNe, Nat.reducePow, Int.reduceToNat, Int.reduceLE, Int.reduceLT, Int.reduceMul, Int.reduceEq, Int.reducePow, Int.reduceAdd, Int.reduceSub, Int.reduceNeg, reduceCtorEq]
      refine hK _ (block_n (then_n ?_))
      clear hK K
      refine awl_keep [0, 5] (by simp only [go_sem, ↓reduceIte, Nat.reduceEqDiff, Nat.reduceLT, Nat.reduceLeDiff, Nat.reduceAdd, Nat.reduceSub, Nat.reduceMul, Nat.reduceBEq, Nat.reduceBNe, Nat.reducePow, Int.reduceToNat, Int.reduceLE, Int.reduceLT, Int.reduceMul, Int.reduceEq, Int.reducePow, Int.reduceAdd, Int.reduceSub, Int.reduceNeg, reduceCtorEq]; exact rfl) ?_
      refine awl_eq (ih (N / 128, pre ++ [N % 128 + 128]) ⟨by omega, by simpa using hp, by simp; omega⟩ (by simp; omega)) ?_
      clear ih
      have e1 : bits .or .u8 (IntKind.u8.wrap ↑N) 128 = ((N % 128 + 128 : Nat) : Int) := by rw [IntKind.wrap_u8 (N : Int)]; exact or_byte N
      have e2 : ((N : Int)).fdiv 128 = ((N / 128 : Nat) : Int) := by rw [Int.fdiv_eq_ediv_of_nonneg _ (by decide)]; rfl
      simp only [e1, e2, List.map_append, List.map_cons, List.map_nil, List.append_assoc, List.length_append, List.length_cons, List.length_nil, byteN, Nat.zero_add, Nat.add_assoc]
    · have hlt : N < 128 := by simp at hc; omega
      rw [nb_small hlt] at hp hlen
      clear ih
      refine aw_exit (then_e (then_e (block_e (then_n (aw_seq ?_)))))
      refine aw_regionL tk0 [0, 5] (fun K hK => ?_)
      simp only [go_sem, ↓reduceIte, Nat.reduceEqDiff, Nat.reduceLT, Nat.reduceLeDiff, Nat.reduceAdd, Nat.reduceSub, Nat.reduceMul, Nat.reduceBEq, Nat.reduceBNe, Nat.reducePow, Int.reduceToNat, Int.reduceLE, Int.reduceLT, Int.reduceMul, Int.reduceEq, Int.reducePow, Int.reduceAdd, Int.reduceSub, Int.reduceNeg, reduceCtorEq]
      simp only [List.length_cons, List.length_nil] at hlen
      refine ⟨⟨by omega, by omega⟩, Nat.le_refl _, hK _ (then_n (aw_ret ?_))⟩
      clear hK K
      simp only [Qret, low_byte hlt, ← hp]
      simp only [go_sem, ↓reduceIte, Nat.reduceEqDiff, Nat.reduceLT, Nat.reduceLeDiff, Nat.reduceAdd, Nat.reduceSub, Nat.reduceMul, Nat.reduceBEq, Nat.reduceBNe, Nat.reducePow, Int.reduceToNat, Int.reduceLE, Int.reduceLT, Int.reduceMul, Int.reduceEq, Int.reducePow, Int.reduceAdd, Int.reduceSub, Int.reduceNeg, reduceCtorEq, Try.results15]
      exact ⟨by simp [byteN, Nat.add_assoc], by simp [byteN, Nat.add_assoc]⟩

theorem number_n (z : Int) (hz1 : -9223372036854775808 ≤ z) (hz2 : z ≤ 9223372036854775807) :
    AFn Try.prog 15 [.sl [] 0 .full, .c (.int .i64 z)] [] (.ow 20000 0 (num z).length (num z).length) [.br ((num z).map byteN) (num z).length 5 1] := by
  refine afn_of [10020] Try.func15 rfl Try.ntmps15 (Nat.le_of_ble_eq_true rfl) (Nat.le_of_ble_eq_true rfl) fun w0 G0 B0 Pr hB0 => ?_
  refine aw_seq ?_
  refine aw_regionL tk0 [0, 1] (fun K hK => ?_)
  simp only [go_sem, ↓reduceIte, Nat.reduceEqDiff, Nat.reduceLT, Nat.reduceLeDiff, Nat.reduceAdd, Nat.reduceSub, Nat.reduceMul, Nat.reduceBEq, Nat.reduceBNe, Nat.reducePow, Int.reduceToNat, Int.reduceLE, Int.reduceLT, Int.reduceMul, Int.reduceEq, Int.reducePow, Int.reduceAdd, Int.reduceSub, Int.reduceNeg, reduceCtorEq]
  refine hK _ (then_n (aw_seq ?_))
  clear hK K
  refine aw_regionL tk0 [0, 1] (fun K hK => ?_)
  simp only [go_sem, ↓reduceIte, Nat.reduceEqDiff, Nat.reduceLT, Nat.reduceLeDiff, Nat.reduceAdd, Nat.reduceSub, Nat.reduceMul, Nat.reduceBEq, Nat.reduceBNe, Nat.reducePow, Int.reduceToNat, Int.reduceLE, Int.reduceLT, Int.reduceMul, Int.reduceEq, Int.reducePow, Int.reduceAdd, Int.reduceSub, Int.reduceNeg, reduceCtorEq]
  refine hK _ (then_n (aw_seq (aw_block (aw_loop ?_))))
  clear hK K
  refine awl_le (ale_ow (b := 10020) (t := 0) 5 1 (by decide) (by decide) rfl rfl) ?_
  refine awl_ind (α := Nat × List Nat) (fun p => [(0, .ow 10020 0 p.2.length p.2.length), (5, .c (.int .u64 (p.1 : Int))), (10020, .br (p.2.map byteN) p.2.length 5 1)])
    (fun p => p.1 < 18446744073709551616 ∧ p.2 ++ nb p.1 = num z ∧ p.2.length + (nb p.1).length ≤ 10) (fun p => p.1) (zig z, []) [0, 5] ?_ ?_ ?_
  · simp only [go_sem, ↓reduceIte, Nat.reduceEqDiff, Nat.reduceLT, Nat.reduceLeDiff, Nat.reduceAdd, Nat.reduceSub, Nat.reduceMul, Nat.reduceBEq, Nat.reduceBNe, Nat.reducePow, Int.reduceToNat, Int.reduceLE, Int.reduceLT, Int.reduceMul, Int.reduceEq, Int.reducePow, Int.reduceAdd, Int.reduceSub, Int.reduceNeg, reduceCtorEq]
    have e := zig_bits hz1 hz2
    rw [← Int.fdiv_eq_ediv_of_nonneg z (by decide)] at e
    rw [e]
  · exact ⟨zig_lt ⟨hz1, hz2⟩, by simp [num], by simpa using nb_len10 (zig_lt ⟨hz1, hz2⟩)⟩
  · rintro ⟨N, pre⟩ ⟨hN, hp, hlen⟩ ih
    refine aw_seq (aw_seq ?_)
    simp only at ih hN hp hlen ⊢
    refine aw_regionL tk0 [0, 5] (fun K hK => ?_)
    simp only [go_sem, ↓reduceIte, Nat.reduceEqDiff, Nat.reduceLT, Nat.reduceLeDiff, Nat.reduceAdd, Nat.reduceSub, Nat.reduceMul, Nat.reduceBEq, Nat.reduceBNe, Nat.reducePow, Int.reduceToNat, Int.reduceLE, Int.reduceLT, Int.reduceMul, Int.reduceEq, Int.reducePow, Int.reduceAdd, Int.reduceSub, Int.reduceNeg, reduceCtorEq]
    refine hK _ (then_n ?_)
    clear hK K
    refine aw_cond (by decide) rfl (fun hc => ?_) (fun hc => ?_)
    · have hlt : ¬ N < 128 := by simp at hc; omega
      rw [nb_big hlt] at hp hlen
      simp only [List.length_cons] at hlen
      refine aw_skip (then_n (aw_block (aw_seq ?_)))
      refine aw_regionL tk0 [0, 5] (fun K hK => ?_)
      simp only [go_sem, ↓reduceIte, Nat.reduceEqDiff, Nat.reduceLT, Nat.reduceLeDiff, Nat.reduceAdd, Nat.reduceSub, Nat.reduceMul, Nat.reduceBEq, Nat.reduceBNe, Nat.reducePow, Int.reduceToNat, Int.reduceLE, Int.reduceLT, Int.reduceMul, Int.reduceEq, Int.reducePow, Int.reduceAdd, Int.reduceSub, Int.reduceNeg, reduceCtorEq]
      refine ⟨⟨by omega, by omega⟩, Nat.le_refl _, hK _ (then_n ?_)⟩
      clear hK K
      refine aw_regionL tk0 [0, 5] (fun K hK => ?_)
      simp only [go_sem, ↓reduceIte, Nat.reduceEqDiff, Nat.reduceLT, Nat.reduceLeDiff, Nat.reduceAdd, Nat.reduceSub, Nat.reduceMul, Nat.reduceBEq, Nat.reduceBNe, Nat.reducePow, Int.reduceToNat, Int.reduceLE, Int.reduceLT, Int.reduceMul, Int.reduceEq, Int.reducePow, Int.reduceAdd, Int.reduceSub, Int.reduceNeg, reduceCtorEq]
      refine hK _ (block_n (then_n ?_))
      clear hK K
      refine awl_keep [0, 5] (by simp only [go_sem, ↓reduceIte, Nat.reduceEqDiff, Nat.reduceLT, Nat.reduceLeDiff, Nat.reduceAdd, Nat.reduceSub, Nat.reduceMul, Nat.reduceBEq, Nat.reduceBNe, Nat.reducePow, Int.reduceToNat, Int.reduceLE, Int.reduceLT, Int.reduceMul, Int.reduceEq, Int.reducePow, Int.reduceAdd, Int.reduceSub, Int.reduceNeg, reduceCtorEq]; exact rfl) ?_
      refine awl_eq (ih (N / 128, pre ++ [N % 128 + 128]) ⟨by omega, by simpa using hp, by simp; omega⟩ (by simp; omega)) ?_
      clear ih
      have e1 : bits .or .u8 (IntKind.u8.wrap ↑N) 128 = ((N % 128 + 128 : Nat) : Int) := by rw [IntKind.wrap_u8 (N : Int)]; exact or_byte N
      have e2 : ((N : Int)).fdiv 128 = ((N / 128 : Nat) : Int) := by rw [Int.fdiv_eq_ediv_of_nonneg _ (by decide)]; rfl
      simp only [e1, e2, List.map_append, List.map_cons, List.map_nil, List.append_assoc, List.length_append, List.length_cons, List.length_nil, byteN, Nat.zero_add, Nat.add_assoc]
    · have hlt : N < 128 := by simp at hc; omega
      rw [nb_small hlt] at hp hlen
      clear ih
      refine aw_exit (then_e (then_e (block_e (then_n (aw_seq ?_)))))
      refine aw_regionL tk0 [0, 5] (fun K hK => ?_)
      simp only [go_sem, ↓reduceIte, Nat.reduceEqDiff, Nat.reduceLT, Nat.reduceLeDiff, Nat.reduceAdd, Nat.reduceSub, Nat.reduceMul, Nat.reduceBEq, Nat.reduceBNe, Nat.reducePow, Int.reduceToNat, Int.reduceLE, Int.reduceLT, Int.reduceMul, Int.reduceEq, Int.reducePow, Int.reduceAdd, Int.reduceSub, Int.reduceNeg, reduceCtorEq]
      simp only [List.length_cons, List.length_nil] at hlen
      refine ⟨⟨by omega, by omega⟩, Nat.le_refl _, hK _ (then_n (aw_ret ?_))⟩
      clear hK K
      simp only [Qret, low_byte hlt, ← hp]
      simp only [go_sem, ↓reduceIte, Nat.reduceEqDiff, Nat.reduceLT, Nat.reduceLeDiff, Nat.reduceAdd, Nat.reduceSub, Nat.reduceMul, Nat.reduceBEq, Nat.reduceBNe, Nat.reducePow, Int.reduceToNat, Int.reduceLE, Int.reduceLT, Int.reduceMul, Int.reduceEq, Int.reducePow, Int.reduceAdd, Int.reduceSub, Int.reduceNeg, reduceCtorEq, Try.results15]
      exact ⟨by simp [byteN, Nat.add_assoc], by simp [byteN, Nat.add_assoc]⟩
def lo_clause : Nat → List Nat
  | 0 => [0, 1]
  | 1 => [0, 1]
  | 2 => [0, 1]
  | 3 => [0, 11, 12, 13]
  | 4 => [0, 11, 12, 13]
  | 5 => [0, 6, 11, 12, 13]
  | 6 => [0, 11, 12, 13]
  | 7 => [0]
  | _ => []
set_option maxHeartbeats 4000000 in
theorem clause_o (xs : List Nat) (c : List Int) (hc : OkInts c) (hl : xs.length + (clauseB c).length + 10 ≤ 140737488355328) :
    AFn Try.prog 24 [rowA 20000 xs, intsA c] [.br (xs.map byteN) xs.length 5 1] (rowA 20000 (xs ++ clauseB c)) [.br ((xs ++ clauseB c).map byteN) (xs ++ clauseB c).length 5 1] := by
  have hc1 := hc.1
  unfold OkLen at hc1
  simp only [clauseB, several, List.length_append] at hl
  refine afn_of [] Try.func24 rfl Try.ntmps24 (Nat.le_of_ble_eq_true rfl) (Nat.le_of_ble_eq_true rfl) fun w0 G0 B0 Pr hB0 => ?_
  simp only [start, argMap, List.cons_append, List.nil_append, rowA, intsA]
  repeat' (first
    | (with_reducible refine hY _ ?_; clear hY Y)
    | ((with_reducible first | refine run_n rfl (runN fun K' hK' => todo ?_) | refine hK' _ (eqTo2 fun Y hY => todo ?_) | refine run_g rfl (eqTo2 fun Y hY => todo ?_) | refine eqTo2 fun Y hY => todo ?_ | refine runN fun K' hK' => todo ?_ | refine aw_regionB tk0 lo_clause (eqTo2 fun Y hY => todo ?_) | refine todo ?_ | refine qretT_r ?_ | refine draw_n rfl (drawN fun K' hK' => todo ?_) | refine hK' _ _ (eqTo2 fun Y hY => todo ?_) | refine draw_g rfl (eqTo2 fun Y hY => todo ?_) | refine drawN fun K' hK' => todo ?_ | refine qretT_n ?_); (try clear hK' K'); (try dsimp only [aop]); try simp only [go_sem, ↓reduceIte, Nat.reduceEqDiff, Nat.reduceLT, Nat.reduceLeDiff, Nat.reduceAdd, Nat.reduceSub, Nat.reduceMul, Nat.reduceBEq, Nat.reduceBNe, Nat.reducePow, Int.reduceToNat, Int.reduceLE, Int.reduceLT, Int.reduceMul, Int.reduceEq, Int.reducePow, Int.reduceAdd, Int.reduceSub, Int.reduceNeg, reduceCtorEq, lo_clause, Try.results24])
    | (with_reducible first | refine run_nil ?_ | refine guardG_n rfl ?_ | refine guardG_y ?_ | refine guardG_u ?_ | refine andD ?_ ?_ | refine then_n ?_ | refine aw_seq ?_ | refine regN fun K hK => ?_ | refine condV_t ?_ | refine condV_f ?_ | refine then_e ?_ | refine then_r ?_ | refine block_n ?_ | refine block_r ?_ | refine block_e ?_ | refine aw_block ?_ | refine aw_skip ?_ | refine aw_ret ?_ | refine aw_exit ?_ | refine aw_loop ?_ | refine aw_condc_t ?_ | refine aw_condc_f ?_ | refine draw_nil ?_ | refine regD fun K hK => ?_)
    | (with_reducible refine hK _ ?_; clear hK K)
    | (with_reducible refine hK _ _ ?_ ?_; (· kernel_rfl); clear hK K)
    | ((with_reducible first | refine gO_some ?_ ?_ | refine aw_condE ?_ ?_ | refine block_o ?_ ?_); (· decide))
    | (with_reducible refine aw_drawB tk0 lo_clause ?_ ?_; (· kernel_rfl))
    | ((with_reducible first | refine guardG_b (fun hc => ?_) (fun hc => ?_) | refine condV_b (fun hc => ?_) (fun hc => ?_)) <;> (try simp only [decide_eq_true_eq, decide_eq_false_iff_not, Bool.not_true, Bool.not_false, Bool.not_eq_true', Bool.not_eq_false'] at hc) <;> (try (exfalso; omega)))
    | (with_reducible refine and_i ?_ ?_; (· first | omega | assumption | (refine ⟨?_, ?_⟩ <;> (first | omega | assumption | (simp only [List.length_append, List.length_map, List.length_cons, List.length_nil] <;> omega))) | (refine ⟨?_, ?_, ?_⟩ <;> (first | omega | assumption | (simp only [List.length_append, List.length_map, List.length_cons, List.length_nil] <;> omega))) | (simp only [List.length_append, List.length_map, List.length_cons, List.length_nil] <;> omega)))
    | (with_reducible refine ex_callT (number_o _ _ ?_ ?_ ?_) ?_; (· omega); (· omega); (· (try simp only [List.length_append, List.length_map, List.length_cons, List.length_nil, List.take_length]); omega))
    | (with_reducible refine ex_seal ?_)
    | fail)
  refine awl_ind (α := Nat) (fun k => [(0, rowA 20000 (xs ++ num c.length ++ (c.take k).flatMap num)), (11, .sl (c.map intA) c.length .none), (12, intA c.length), (13, intA k), (20000, .br ((xs ++ num c.length ++ (c.take k).flatMap num).map byteN) (xs ++ num c.length ++ (c.take k).flatMap num).length 5 1)])
    (fun k => k ≤ c.length) (fun k => c.length - k) 0 [0, 11, 12, 13] ?_ (Nat.zero_le _) ?_
  · simp only [go_sem, ↓reduceIte, Nat.reduceEqDiff, Nat.reduceLT, Nat.reduceLeDiff, Nat.reduceAdd, Nat.reduceSub, Nat.reduceMul, Nat.reduceBEq, Nat.reduceBNe, Nat.reducePow, Int.reduceToNat, Int.reduceLE, Int.reduceLT, Int.reduceMul, Int.reduceEq, Int.reducePow, Int.reduceAdd, Int.reduceSub, Int.reduceNeg, reduceCtorEq]; simp [intA]
  intro k hk ih
  simp only [rowA, intA]
  by_cases hlt : k < c.length
  · have hle := fm_le (f := num) hlt
    have hst := take_fm (f := num) hlt
    obtain ⟨hz1, hz2⟩ := hc.2 c[k] (List.getElem_mem hlt)
    repeat' (first
      | (with_reducible refine hY _ ?_; clear hY Y)
      | ((with_reducible first | refine run_n rfl (runN fun K' hK' => todo ?_) | refine hK' _ (eqTo2 fun Y hY => todo ?_) | refine run_g rfl (eqTo2 fun Y hY => todo ?_) | refine eqTo2 fun Y hY => todo ?_ | refine runN fun K' hK' => todo ?_ | refine aw_regionB tk0 lo_clause (eqTo2 fun Y hY => todo ?_) | refine todo ?_ | refine qretT_r ?_ | refine draw_n rfl (drawN fun K' hK' => todo ?_) | refine hK' _ _ (eqTo2 fun Y hY => todo ?_) | refine draw_g rfl (eqTo2 fun Y hY => todo ?_) | refine drawN fun K' hK' => todo ?_ | refine qretT_n ?_); (try clear hK' K'); (try dsimp only [aop]); try simp only [go_sem, ↓reduceIte, Nat.reduceEqDiff, Nat.reduceLT, Nat.reduceLeDiff, Nat.reduceAdd, Nat.reduceSub, Nat.reduceMul, Nat.reduceBEq, Nat.reduceBNe, Nat.reducePow, Int.reduceToNat, Int.reduceLE, Int.reduceLT, Int.reduceMul, Int.reduceEq, Int.reducePow, Int.reduceAdd, Int.reduceSub, Int.reduceNeg, reduceCtorEq, lo_clause, Try.results24, map_at hlt])
      | (with_reducible first | refine run_nil ?_ | refine guardG_n rfl ?_ | refine guardG_y ?_ | refine guardG_u ?_ | refine andD ?_ ?_ | refine then_n ?_ | refine aw_seq ?_ | refine regN fun K hK => ?_ | refine condV_t ?_ | refine condV_f ?_ | refine then_e ?_ | refine then_r ?_ | refine block_n ?_ | refine block_r ?_ | refine block_e ?_ | refine aw_block ?_ | refine aw_skip ?_ | refine aw_ret ?_ | refine aw_exit ?_ | refine aw_loop ?_ | refine aw_condc_t ?_ | refine aw_condc_f ?_ | refine draw_nil ?_ | refine regD fun K hK => ?_)
      | (with_reducible refine hK _ ?_; clear hK K)
      | (with_reducible refine hK _ _ ?_ ?_; (· kernel_rfl); clear hK K)
      | ((with_reducible first | refine gO_some ?_ ?_ | refine aw_condE ?_ ?_ | refine block_o ?_ ?_); (· decide))
      | (with_reducible refine aw_drawB tk0 lo_clause ?_ ?_; (· kernel_rfl))
      | ((with_reducible first | refine guardG_b (fun hc => ?_) (fun hc => ?_) | refine condV_b (fun hc => ?_) (fun hc => ?_)) <;> (try simp only [decide_eq_true_eq, decide_eq_false_iff_not, Bool.not_true, Bool.not_false, Bool.not_eq_true', Bool.not_eq_false'] at hc) <;> (try (exfalso; omega)))
      | (with_reducible refine and_i ?_ ?_; (· first | omega | assumption | (refine ⟨?_, ?_⟩ <;> (first | omega | assumption | (simp only [List.length_append, List.length_map, List.length_cons, List.length_nil] <;> omega))) | (refine ⟨?_, ?_, ?_⟩ <;> (first | omega | assumption | (simp only [List.length_append, List.length_map, List.length_cons, List.length_nil] <;> omega))) | (simp only [List.length_append, List.length_map, List.length_cons, List.length_nil] <;> omega)))
      | (with_reducible refine ex_callT (number_o _ _ ?_ ?_ ?_) ?_; (· omega); (· omega); (· (try simp only [List.length_append, List.length_map, List.length_cons, List.length_nil, List.take_length]); omega))
      | (with_reducible refine ex_seal ?_)
      | fail)
    refine awl_keep [0, 11, 12, 13] (by simp only [go_sem, ↓reduceIte, Nat.reduceEqDiff, Nat.reduceLT, Nat.reduceLeDiff, Nat.reduceAdd, Nat.reduceSub, Nat.reduceMul, Nat.reduceBEq, Nat.reduceBNe, Nat.reducePow, Int.reduceToNat, Int.reduceLE, Int.reduceLT, Int.reduceMul, Int.reduceEq, Int.reducePow, Int.reduceAdd, Int.reduceSub, Int.reduceNeg, reduceCtorEq]; exact rfl) ?_
    refine awl_eq (ih (k + 1) (by omega) (by omega)) ?_
    simp (disch := omega) [wrap_i64, hst, intA, List.append_assoc]
  · obtain rfl : k = c.length := by omega
    repeat' (first
      | (with_reducible refine hY _ ?_; clear hY Y)
      | ((with_reducible first | refine run_n rfl (runN fun K' hK' => todo ?_) | refine hK' _ (eqTo2 fun Y hY => todo ?_) | refine run_g rfl (eqTo2 fun Y hY => todo ?_) | refine eqTo2 fun Y hY => todo ?_ | refine runN fun K' hK' => todo ?_ | refine aw_regionB tk0 lo_clause (eqTo2 fun Y hY => todo ?_) | refine todo ?_ | refine qretT_r ?_ | refine draw_n rfl (drawN fun K' hK' => todo ?_) | refine hK' _ _ (eqTo2 fun Y hY => todo ?_) | refine draw_g rfl (eqTo2 fun Y hY => todo ?_) | refine drawN fun K' hK' => todo ?_ | refine qretT_n ?_); (try clear hK' K'); (try dsimp only [aop]); try simp only [go_sem, ↓reduceIte, Nat.reduceEqDiff, Nat.reduceLT, Nat.reduceLeDiff, Nat.reduceAdd, Nat.reduceSub, Nat.reduceMul, Nat.reduceBEq, Nat.reduceBNe, Nat.reducePow, Int.reduceToNat, Int.reduceLE, Int.reduceLT, Int.reduceMul, Int.reduceEq, Int.reducePow, Int.reduceAdd, Int.reduceSub, Int.reduceNeg, reduceCtorEq, lo_clause, Try.results24])
      | (with_reducible first | refine run_nil ?_ | refine guardG_n rfl ?_ | refine guardG_y ?_ | refine guardG_u ?_ | refine andD ?_ ?_ | refine then_n ?_ | refine aw_seq ?_ | refine regN fun K hK => ?_ | refine condV_t ?_ | refine condV_f ?_ | refine then_e ?_ | refine then_r ?_ | refine block_n ?_ | refine block_r ?_ | refine block_e ?_ | refine aw_block ?_ | refine aw_skip ?_ | refine aw_ret ?_ | refine aw_exit ?_ | refine aw_loop ?_ | refine aw_condc_t ?_ | refine aw_condc_f ?_ | refine draw_nil ?_ | refine regD fun K hK => ?_)
      | (with_reducible refine hK _ ?_; clear hK K)
      | (with_reducible refine hK _ _ ?_ ?_; (· kernel_rfl); clear hK K)
      | ((with_reducible first | refine gO_some ?_ ?_ | refine aw_condE ?_ ?_ | refine block_o ?_ ?_); (· decide))
      | (with_reducible refine aw_drawB tk0 lo_clause ?_ ?_; (· kernel_rfl))
      | ((with_reducible first | refine guardG_b (fun hc => ?_) (fun hc => ?_) | refine condV_b (fun hc => ?_) (fun hc => ?_)) <;> (try simp only [decide_eq_true_eq, decide_eq_false_iff_not, Bool.not_true, Bool.not_false, Bool.not_eq_true', Bool.not_eq_false'] at hc) <;> (try (exfalso; omega)))
      | (with_reducible refine and_i ?_ ?_; (· first | omega | assumption | (refine ⟨?_, ?_⟩ <;> (first | omega | assumption | (simp only [List.length_append, List.length_map, List.length_cons, List.length_nil] <;> omega))) | (refine ⟨?_, ?_, ?_⟩ <;> (first | omega | assumption | (simp only [List.length_append, List.length_map, List.length_cons, List.length_nil] <;> omega))) | (simp only [List.length_append, List.length_map, List.length_cons, List.length_nil] <;> omega)))
      | (with_reducible refine ex_seal ?_)
      | fail)
    simp [clauseB, several]

def lo_steps : Nat → List Nat
  | 0 => [0, 1]
  | 1 => [0, 1]
  | 2 => [0, 1]
  | 3 => [0, 13, 14, 15]
  | 4 => [0, 13, 14, 15]
  | 5 => [0, 6, 13, 14, 15]
  | 6 => [0, 6, 13, 14, 15]
  | 7 => [0, 6, 13, 14, 15, 25, 26, 27]
  | 8 => [0, 6, 13, 14, 15, 25, 26, 27]
  | 9 => [0, 6, 8, 13, 14, 15, 25, 26, 27]
  | 10 => [0, 6, 13, 14, 15, 25, 26, 27]
  | 11 => [0, 6, 13, 14, 15]
  | 12 => [0, 13, 14, 15]
  | 13 => [0]
  | _ => []
set_option maxRecDepth 100000 in
set_option maxHeartbeats 4000000 in
theorem steps_o (xs : List Nat) (l : List StepD) (hc : OkSteps l) (hl : xs.length + (several stepB l).length + 10 ≤ 140737488355328) :
    AFn Try.prog 23 [rowA 20000 xs, stepsA l] [.br (xs.map byteN) xs.length 5 1] (rowA 20000 (xs ++ several stepB l)) [.br ((xs ++ several stepB l).map byteN) (xs ++ several stepB l).length 5 1] := by
  have hc1 := hc.1
  unfold OkLen at hc1
  simp only [several, List.length_append] at hl
  refine afn_of [] Try.func23 rfl Try.ntmps23 (Nat.le_of_ble_eq_true rfl) (Nat.le_of_ble_eq_true rfl) fun w0 G0 B0 Pr hB0 => ?_
  simp only [start, argMap, List.cons_append, List.nil_append, rowA, stepsA]
  repeat' (first
    | (with_reducible refine hY _ ?_; clear hY Y)
    | ((with_reducible first | refine run_n rfl (runN fun K' hK' => todo ?_) | refine hK' _ (eqTo2 fun Y hY => todo ?_) | refine run_g rfl (eqTo2 fun Y hY => todo ?_) | refine eqTo2 fun Y hY => todo ?_ | refine runN fun K' hK' => todo ?_ | refine aw_regionB tk0 lo_steps (eqTo2 fun Y hY => todo ?_) | refine todo ?_ | refine qretT_r ?_ | refine draw_n rfl (drawN fun K' hK' => todo ?_) | refine hK' _ _ (eqTo2 fun Y hY => todo ?_) | refine draw_g rfl (eqTo2 fun Y hY => todo ?_) | refine drawN fun K' hK' => todo ?_ | refine qretT_n ?_); (try clear hK' K'); (try dsimp only [aop]); try simp only [go_sem, ↓reduceIte, Nat.reduceEqDiff, Nat.reduceLT, Nat.reduceLeDiff, Nat.reduceAdd, Nat.reduceSub, Nat.reduceMul, Nat.reduceBEq, Nat.reduceBNe, Nat.reducePow, Int.reduceToNat, Int.reduceLE, Int.reduceLT, Int.reduceMul, Int.reduceEq, Int.reducePow, Int.reduceAdd, Int.reduceSub, Int.reduceNeg, reduceCtorEq, lo_steps, Try.results23])
    | (with_reducible first | refine run_nil ?_ | refine guardG_n rfl ?_ | refine guardG_y ?_ | refine guardG_u ?_ | refine andD ?_ ?_ | refine then_n ?_ | refine aw_seq ?_ | refine regN fun K hK => ?_ | refine condV_t ?_ | refine condV_f ?_ | refine then_e ?_ | refine then_r ?_ | refine block_n ?_ | refine block_r ?_ | refine block_e ?_ | refine aw_block ?_ | refine aw_skip ?_ | refine aw_ret ?_ | refine aw_exit ?_ | refine aw_loop ?_ | refine aw_condc_t ?_ | refine aw_condc_f ?_ | refine draw_nil ?_ | refine regD fun K hK => ?_)
    | (with_reducible refine hK _ ?_; clear hK K)
    | (with_reducible refine hK _ _ ?_ ?_; (· kernel_rfl); clear hK K)
    | ((with_reducible first | refine gO_some ?_ ?_ | refine aw_condE ?_ ?_ | refine block_o ?_ ?_); (· decide))
    | (with_reducible refine aw_drawB tk0 lo_steps ?_ ?_; (· kernel_rfl))
    | ((with_reducible first | refine guardG_b (fun hc => ?_) (fun hc => ?_) | refine condV_b (fun hc => ?_) (fun hc => ?_)) <;> (try simp only [decide_eq_true_eq, decide_eq_false_iff_not, Bool.not_true, Bool.not_false, Bool.not_eq_true', Bool.not_eq_false'] at hc) <;> (try (exfalso; omega)))
    | (with_reducible refine and_i ?_ ?_; (· first | omega | assumption | (refine ⟨?_, ?_⟩ <;> (first | omega | assumption | (simp only [List.length_append, List.length_map, List.length_cons, List.length_nil] <;> omega))) | (refine ⟨?_, ?_, ?_⟩ <;> (first | omega | assumption | (simp only [List.length_append, List.length_map, List.length_cons, List.length_nil] <;> omega))) | (simp only [List.length_append, List.length_map, List.length_cons, List.length_nil] <;> omega)))
    | (with_reducible refine ex_callT (number_o _ _ ?_ ?_ ?_) ?_; (· omega); (· omega); (· (try simp only [List.length_append, List.length_map, List.length_cons, List.length_nil, List.take_length]); omega))
    | (with_reducible refine ex_seal ?_)
    | fail)
  refine awl_ind (α := Nat) (fun k => [(0, rowA 20000 (xs ++ num l.length ++ (l.take k).flatMap stepB)), (13, stepsA l), (14, intA l.length), (15, intA k), (20000, .br ((xs ++ num l.length ++ (l.take k).flatMap stepB).map byteN) (xs ++ num l.length ++ (l.take k).flatMap stepB).length 5 1)])
    (fun k => k ≤ l.length) (fun k => l.length - k) 0 [0, 13, 14, 15] ?_ (Nat.zero_le _) ?_
  · simp only [go_sem, ↓reduceIte, Nat.reduceEqDiff, Nat.reduceLT, Nat.reduceLeDiff, Nat.reduceAdd, Nat.reduceSub, Nat.reduceMul, Nat.reduceBEq, Nat.reduceBNe, Nat.reducePow, Int.reduceToNat, Int.reduceLE, Int.reduceLT, Int.reduceMul, Int.reduceEq, Int.reducePow, Int.reduceAdd, Int.reduceSub, Int.reduceNeg, reduceCtorEq]; simp [intA, stepsA]
  intro k hk ih
  simp only [rowA, intA, stepsA]
  by_cases hlt : k < l.length
  · have hle := fm_le (f := stepB) hlt
    have hst := take_fm (f := stepB) hlt
    have hat := fm_at (f := stepA) (k := 2) (fun _ => rfl) hlt
    have hfl := fm_len (f := stepA) (k := 2) (fun _ => rfl) l
    obtain ⟨hs1, hs2, hs3, hs4⟩ := hc.2 l[k] (List.getElem_mem hlt)
    unfold OkLen at hs1
    generalize l[k] = s at *
    simp only [stepB, several, List.length_append] at hle
    repeat' (first
      | (with_reducible refine hY _ ?_; clear hY Y)
      | ((with_reducible first | refine run_n rfl (runN fun K' hK' => todo ?_) | refine hK' _ (eqTo2 fun Y hY => todo ?_) | refine run_g rfl (eqTo2 fun Y hY => todo ?_) | refine eqTo2 fun Y hY => todo ?_ | refine runN fun K' hK' => todo ?_ | refine aw_regionB tk0 lo_steps (eqTo2 fun Y hY => todo ?_) | refine todo ?_ | refine qretT_r ?_ | refine draw_n rfl (drawN fun K' hK' => todo ?_) | refine hK' _ _ (eqTo2 fun Y hY => todo ?_) | refine draw_g rfl (eqTo2 fun Y hY => todo ?_) | refine drawN fun K' hK' => todo ?_ | refine qretT_n ?_); (try clear hK' K'); (try dsimp only [aop]); try simp only [go_sem, ↓reduceIte, Nat.reduceEqDiff, Nat.reduceLT, Nat.reduceLeDiff, Nat.reduceAdd, Nat.reduceSub, Nat.reduceMul, Nat.reduceBEq, Nat.reduceBNe, Nat.reducePow, Int.reduceToNat, Int.reduceLE, Int.reduceLT, Int.reduceMul, Int.reduceEq, Int.reducePow, Int.reduceAdd, Int.reduceSub, Int.reduceNeg, reduceCtorEq, lo_steps, Try.results23, hat, hfl])
      | (with_reducible first | refine run_nil ?_ | refine guardG_n rfl ?_ | refine guardG_y ?_ | refine guardG_u ?_ | refine andD ?_ ?_ | refine then_n ?_ | refine aw_seq ?_ | refine regN fun K hK => ?_ | refine condV_t ?_ | refine condV_f ?_ | refine then_e ?_ | refine then_r ?_ | refine block_n ?_ | refine block_r ?_ | refine block_e ?_ | refine aw_block ?_ | refine aw_skip ?_ | refine aw_ret ?_ | refine aw_exit ?_ | refine aw_loop ?_ | refine aw_condc_t ?_ | refine aw_condc_f ?_ | refine draw_nil ?_ | refine regD fun K hK => ?_)
      | (with_reducible refine hK _ ?_; clear hK K)
      | (with_reducible refine hK _ _ ?_ ?_; (· kernel_rfl); clear hK K)
      | ((with_reducible first | refine gO_some ?_ ?_ | refine aw_condE ?_ ?_ | refine block_o ?_ ?_); (· decide))
      | (with_reducible refine aw_drawB tk0 lo_steps ?_ ?_; (· kernel_rfl))
      | ((with_reducible first | refine guardG_b (fun hc => ?_) (fun hc => ?_) | refine condV_b (fun hc => ?_) (fun hc => ?_)) <;> (try simp only [decide_eq_true_eq, decide_eq_false_iff_not, Bool.not_true, Bool.not_false, Bool.not_eq_true', Bool.not_eq_false'] at hc) <;> (try (exfalso; omega)))
      | (with_reducible refine and_i ?_ ?_; (· first | omega | assumption | (refine ⟨?_, ?_⟩ <;> (first | omega | assumption | (simp only [List.length_append, List.length_map, List.length_cons, List.length_nil] <;> omega))) | (refine ⟨?_, ?_, ?_⟩ <;> (first | omega | assumption | (simp only [List.length_append, List.length_map, List.length_cons, List.length_nil] <;> omega))) | (simp only [List.length_append, List.length_map, List.length_cons, List.length_nil] <;> omega)))
      | (with_reducible refine ex_callT (number_o _ _ ?_ ?_ ?_) ?_; (· omega); (· omega); (· (try simp only [List.length_append, List.length_map, List.length_cons, List.length_nil, List.take_length]); omega))
      | (with_reducible refine ex_seal ?_)
      | fail)
    have hpl := fm_len (f := partA) (k := 2) (fun _ => rfl) s.P
    refine awl_ind (α := Nat) (fun j => [(0, rowA 20000 (xs ++ num l.length ++ (l.take k).flatMap stepB ++ num s.P.length ++ (s.P.take j).flatMap partB)), (6, .loc 10006 0), (13, stepsA l), (14, intA l.length), (15, intA k), (25, .sl (s.P.flatMap partA) s.P.length .none), (26, intA s.P.length), (27, intA j),
        (10006, .bc [.sl (s.P.flatMap partA) s.P.length .none, intA s.D] 64), (20000, .br ((xs ++ num l.length ++ (l.take k).flatMap stepB ++ num s.P.length ++ (s.P.take j).flatMap partB).map byteN) (xs ++ num l.length ++ (l.take k).flatMap stepB ++ num s.P.length ++ (s.P.take j).flatMap partB).length 5 1)])
      (fun j => j ≤ s.P.length) (fun j => s.P.length - j) 0 [0, 6, 13, 14, 15, 25, 26, 27] ?_ (Nat.zero_le _) ?_
    · simp only [go_sem, ↓reduceIte, Nat.reduceEqDiff, Nat.reduceLT, Nat.reduceLeDiff, Nat.reduceAdd, Nat.reduceSub, Nat.reduceMul, Nat.reduceBEq, Nat.reduceBNe, Nat.reducePow, Int.reduceToNat, Int.reduceLE, Int.reduceLT, Int.reduceMul, Int.reduceEq, Int.reducePow, Int.reduceAdd, Int.reduceSub, Int.reduceNeg, reduceCtorEq]; simp [intA, stepsA]
    intro j hj ih2
    simp only [rowA, intA, stepsA]
    by_cases hlt2 : j < s.P.length
    · have hle2 := fm_le (f := partB) hlt2
      have hst2 := take_fm (f := partB) hlt2
      have hat2 := fm_at (f := partA) (k := 2) (fun _ => rfl) hlt2
      obtain ⟨⟨hp1, hp2⟩, hp3, hp4⟩ := hs2 s.P[j] (List.getElem_mem hlt2)
      generalize s.P[j] = p at *
      simp only [partB, List.length_append] at hle2
      repeat' (first
        | (with_reducible refine hY _ ?_; clear hY Y)
        | ((with_reducible first | refine run_n rfl (runN fun K' hK' => todo ?_) | refine hK' _ (eqTo2 fun Y hY => todo ?_) | refine run_g rfl (eqTo2 fun Y hY => todo ?_) | refine eqTo2 fun Y hY => todo ?_ | refine runN fun K' hK' => todo ?_ | refine aw_regionB tk0 lo_steps (eqTo2 fun Y hY => todo ?_) | refine todo ?_ | refine qretT_r ?_ | refine draw_n rfl (drawN fun K' hK' => todo ?_) | refine hK' _ _ (eqTo2 fun Y hY => todo ?_) | refine draw_g rfl (eqTo2 fun Y hY => todo ?_) | refine drawN fun K' hK' => todo ?_ | refine qretT_n ?_); (try clear hK' K'); (try dsimp only [aop]); try simp only [go_sem, ↓reduceIte, Nat.reduceEqDiff, Nat.reduceLT, Nat.reduceLeDiff, Nat.reduceAdd, Nat.reduceSub, Nat.reduceMul, Nat.reduceBEq, Nat.reduceBNe, Nat.reducePow, Int.reduceToNat, Int.reduceLE, Int.reduceLT, Int.reduceMul, Int.reduceEq, Int.reducePow, Int.reduceAdd, Int.reduceSub, Int.reduceNeg, reduceCtorEq, lo_steps, Try.results23, hat2, hpl])
        | (with_reducible first | refine run_nil ?_ | refine guardG_n rfl ?_ | refine guardG_y ?_ | refine guardG_u ?_ | refine andD ?_ ?_ | refine then_n ?_ | refine aw_seq ?_ | refine regN fun K hK => ?_ | refine condV_t ?_ | refine condV_f ?_ | refine then_e ?_ | refine then_r ?_ | refine block_n ?_ | refine block_r ?_ | refine block_e ?_ | refine aw_block ?_ | refine aw_skip ?_ | refine aw_ret ?_ | refine aw_exit ?_ | refine aw_loop ?_ | refine aw_condc_t ?_ | refine aw_condc_f ?_ | refine draw_nil ?_ | refine regD fun K hK => ?_)
        | (with_reducible refine hK _ ?_; clear hK K)
        | (with_reducible refine hK _ _ ?_ ?_; (· kernel_rfl); clear hK K)
        | ((with_reducible first | refine gO_some ?_ ?_ | refine aw_condE ?_ ?_ | refine block_o ?_ ?_); (· decide))
        | (with_reducible refine aw_drawB tk0 lo_steps ?_ ?_; (· kernel_rfl))
        | ((with_reducible first | refine guardG_b (fun hc => ?_) (fun hc => ?_) | refine condV_b (fun hc => ?_) (fun hc => ?_)) <;> (try simp only [decide_eq_true_eq, decide_eq_false_iff_not, Bool.not_true, Bool.not_false, Bool.not_eq_true', Bool.not_eq_false'] at hc) <;> (try (exfalso; omega)))
        | (with_reducible refine and_i ?_ ?_; (· first | omega | assumption | (refine ⟨?_, ?_⟩ <;> (first | omega | assumption | (simp only [List.length_append, List.length_map, List.length_cons, List.length_nil] <;> omega))) | (refine ⟨?_, ?_, ?_⟩ <;> (first | omega | assumption | (simp only [List.length_append, List.length_map, List.length_cons, List.length_nil] <;> omega))) | (simp only [List.length_append, List.length_map, List.length_cons, List.length_nil] <;> omega)))
        | (with_reducible refine ex_callT (number_o _ _ ?_ ?_ ?_) ?_; (· omega); (· omega); (· (try simp only [List.length_append, List.length_map, List.length_cons, List.length_nil, List.take_length]); omega))
        | (with_reducible refine ex_seal ?_)
        | fail)
      refine awl_keep [0, 6, 13, 14, 15, 25, 26, 27] (by simp only [go_sem, ↓reduceIte, Nat.reduceEqDiff, Nat.reduceLT, Nat.reduceLeDiff, Nat.reduceAdd, Nat.reduceSub, Nat.reduceMul, Nat.reduceBEq, Nat.reduceBNe, Nat.reducePow, Int.reduceToNat, Int.reduceLE, Int.reduceLT, Int.reduceMul, Int.reduceEq, Int.reducePow, Int.reduceAdd, Int.reduceSub, Int.reduceNeg, reduceCtorEq]; exact rfl) ?_
      refine awl_eq (ih2 (j + 1) (by omega) (by omega)) ?_
      simp (disch := omega) [wrap_i64, hst2, intA, stepsA, partB, List.append_assoc]
    · obtain rfl : j = s.P.length := by omega
      clear ih2
      repeat' (first
        | (with_reducible refine hY _ ?_; clear hY Y)
        | ((with_reducible first | refine run_n rfl (runN fun K' hK' => todo ?_) | refine hK' _ (eqTo2 fun Y hY => todo ?_) | refine run_g rfl (eqTo2 fun Y hY => todo ?_) | refine eqTo2 fun Y hY => todo ?_ | refine runN fun K' hK' => todo ?_ | refine aw_regionB tk0 lo_steps (eqTo2 fun Y hY => todo ?_) | refine todo ?_ | refine qretT_r ?_ | refine draw_n rfl (drawN fun K' hK' => todo ?_) | refine hK' _ _ (eqTo2 fun Y hY => todo ?_) | refine draw_g rfl (eqTo2 fun Y hY => todo ?_) | refine drawN fun K' hK' => todo ?_ | refine qretT_n ?_); (try clear hK' K'); (try dsimp only [aop]); try simp only [go_sem, ↓reduceIte, Nat.reduceEqDiff, Nat.reduceLT, Nat.reduceLeDiff, Nat.reduceAdd, Nat.reduceSub, Nat.reduceMul, Nat.reduceBEq, Nat.reduceBNe, Nat.reducePow, Int.reduceToNat, Int.reduceLE, Int.reduceLT, Int.reduceMul, Int.reduceEq, Int.reducePow, Int.reduceAdd, Int.reduceSub, Int.reduceNeg, reduceCtorEq, lo_steps, Try.results23])
        | (with_reducible first | refine run_nil ?_ | refine guardG_n rfl ?_ | refine guardG_y ?_ | refine guardG_u ?_ | refine andD ?_ ?_ | refine then_n ?_ | refine aw_seq ?_ | refine regN fun K hK => ?_ | refine condV_t ?_ | refine condV_f ?_ | refine then_e ?_ | refine then_r ?_ | refine block_n ?_ | refine block_r ?_ | refine block_e ?_ | refine aw_block ?_ | refine aw_skip ?_ | refine aw_ret ?_ | refine aw_exit ?_ | refine aw_loop ?_ | refine aw_condc_t ?_ | refine aw_condc_f ?_ | refine draw_nil ?_ | refine regD fun K hK => ?_)
        | (with_reducible refine hK _ ?_; clear hK K)
        | (with_reducible refine hK _ _ ?_ ?_; (· kernel_rfl); clear hK K)
        | ((with_reducible first | refine gO_some ?_ ?_ | refine aw_condE ?_ ?_ | refine block_o ?_ ?_); (· decide))
        | (with_reducible refine aw_drawB tk0 lo_steps ?_ ?_; (· kernel_rfl))
        | ((with_reducible first | refine guardG_b (fun hc => ?_) (fun hc => ?_) | refine condV_b (fun hc => ?_) (fun hc => ?_)) <;> (try simp only [decide_eq_true_eq, decide_eq_false_iff_not, Bool.not_true, Bool.not_false, Bool.not_eq_true', Bool.not_eq_false'] at hc) <;> (try (exfalso; omega)))
        | (with_reducible refine and_i ?_ ?_; (· first | omega | assumption | (refine ⟨?_, ?_⟩ <;> (first | omega | assumption | (simp only [List.length_append, List.length_map, List.length_cons, List.length_nil] <;> omega))) | (refine ⟨?_, ?_, ?_⟩ <;> (first | omega | assumption | (simp only [List.length_append, List.length_map, List.length_cons, List.length_nil] <;> omega))) | (simp only [List.length_append, List.length_map, List.length_cons, List.length_nil] <;> omega)))
        | (with_reducible refine ex_callT (number_o _ _ ?_ ?_ ?_) ?_; (· omega); (· omega); (· (try simp only [List.length_append, List.length_map, List.length_cons, List.length_nil, List.take_length]); omega))
        | (with_reducible refine ex_seal ?_)
        | fail)
      refine awl_keep [0, 13, 14, 15] (by simp only [go_sem, ↓reduceIte, Nat.reduceEqDiff, Nat.reduceLT, Nat.reduceLeDiff, Nat.reduceAdd, Nat.reduceSub, Nat.reduceMul, Nat.reduceBEq, Nat.reduceBNe, Nat.reducePow, Int.reduceToNat, Int.reduceLE, Int.reduceLT, Int.reduceMul, Int.reduceEq, Int.reducePow, Int.reduceAdd, Int.reduceSub, Int.reduceNeg, reduceCtorEq]; exact rfl) ?_
      refine awl_eq (ih (k + 1) (by omega) (by omega)) ?_
      simp (disch := omega) [wrap_i64, hst, intA, stepsA, stepB, several, List.append_assoc]
  · obtain rfl : k = l.length := by omega
    clear ih
    repeat' (first
      | (with_reducible refine hY _ ?_; clear hY Y)
      | ((with_reducible first | refine run_n rfl (runN fun K' hK' => todo ?_) | refine hK' _ (eqTo2 fun Y hY => todo ?_) | refine run_g rfl (eqTo2 fun Y hY => todo ?_) | refine eqTo2 fun Y hY => todo ?_ | refine runN fun K' hK' => todo ?_ | refine aw_regionB tk0 lo_steps (eqTo2 fun Y hY => todo ?_) | refine todo ?_ | refine qretT_r ?_ | refine draw_n rfl (drawN fun K' hK' => todo ?_) | refine hK' _ _ (eqTo2 fun Y hY => todo ?_) | refine draw_g rfl (eqTo2 fun Y hY => todo ?_) | refine drawN fun K' hK' => todo ?_ | refine qretT_n ?_); (try clear hK' K'); (try dsimp only [aop]); try simp only [go_sem, ↓reduceIte, Nat.reduceEqDiff, Nat.reduceLT, Nat.reduceLeDiff, Nat.reduceAdd, Nat.reduceSub, Nat.reduceMul, Nat.reduceBEq, Nat.reduceBNe, Nat.reducePow, Int.reduceToNat, Int.reduceLE, Int.reduceLT, Int.reduceMul, Int.reduceEq, Int.reducePow, Int.reduceAdd, Int.reduceSub, Int.reduceNeg, reduceCtorEq, lo_steps, Try.results23])
      | (with_reducible first | refine run_nil ?_ | refine guardG_n rfl ?_ | refine guardG_y ?_ | refine guardG_u ?_ | refine andD ?_ ?_ | refine then_n ?_ | refine aw_seq ?_ | refine regN fun K hK => ?_ | refine condV_t ?_ | refine condV_f ?_ | refine then_e ?_ | refine then_r ?_ | refine block_n ?_ | refine block_r ?_ | refine block_e ?_ | refine aw_block ?_ | refine aw_skip ?_ | refine aw_ret ?_ | refine aw_exit ?_ | refine aw_loop ?_ | refine aw_condc_t ?_ | refine aw_condc_f ?_ | refine draw_nil ?_ | refine regD fun K hK => ?_)
      | (with_reducible refine hK _ ?_; clear hK K)
      | (with_reducible refine hK _ _ ?_ ?_; (· kernel_rfl); clear hK K)
      | ((with_reducible first | refine gO_some ?_ ?_ | refine aw_condE ?_ ?_ | refine block_o ?_ ?_); (· decide))
      | (with_reducible refine aw_drawB tk0 lo_steps ?_ ?_; (· kernel_rfl))
      | ((with_reducible first | refine guardG_b (fun hc => ?_) (fun hc => ?_) | refine condV_b (fun hc => ?_) (fun hc => ?_)) <;> (try simp only [decide_eq_true_eq, decide_eq_false_iff_not, Bool.not_true, Bool.not_false, Bool.not_eq_true', Bool.not_eq_false'] at hc) <;> (try (exfalso; omega)))
      | (with_reducible refine and_i ?_ ?_; (· first | omega | assumption | (refine ⟨?_, ?_⟩ <;> (first | omega | assumption | (simp only [List.length_append, List.length_map, List.length_cons, List.length_nil] <;> omega))) | (refine ⟨?_, ?_, ?_⟩ <;> (first | omega | assumption | (simp only [List.length_append, List.length_map, List.length_cons, List.length_nil] <;> omega))) | (simp only [List.length_append, List.length_map, List.length_cons, List.length_nil] <;> omega)))
      | (with_reducible refine ex_seal ?_)
      | fail)
    simp [several]

theorem number_p {cs : List AV} {n : Nat} (xs : List Nat) (z : Int) (h1 : cs = xs.map byteN) (h2 : n = xs.length) (hz1 : -9223372036854775808 ≤ z) (hz2 : z ≤ 9223372036854775807) (hl : xs.length + 10 ≤ 140737488355328) :
    AFn Try.prog 15 [.ow 20000 0 n n, .c (.int .i64 z)] [.br cs n 5 1] (.ow 20000 0 (xs ++ num z).length (xs ++ num z).length) [.br ((xs ++ num z).map byteN) (xs ++ num z).length 5 1] := by
  subst h1; subst h2; exact number_o xs z hz1 hz2 hl
def lo_reply : Nat → List Nat
  | 0 => [0, 1]
  | 1 => [0, 3]
  | 2 => [0]
  | 3 => [0, 3]
  | 4 => [0, 3]
  | 5 => [0, 3, 25, 26, 27]
  | 6 => [0, 3, 25, 26, 27]
  | 7 => [0, 3, 6, 25, 26, 27]
  | 8 => [0, 3, 25, 26, 27]
  | 9 => [0, 3]
  | 10 => [0, 3]
  | 11 => [0, 47, 48, 49]
  | 12 => [0, 47, 48, 49]
  | 13 => [0, 8, 47, 48, 49]
  | 14 => [0, 47, 48, 49]
  | 15 => [0]
  | _ => []
set_option maxRecDepth 100000 in
set_option maxHeartbeats 8000000 in
theorem reply_o (xs : List Nat) (r : ReplyD) (hc : OkReply r) (hl : xs.length + (replyB r).length + 10 ≤ 140737488355328) :
    AFn Try.prog 16 [rowA 20000 xs, .agg (replyA r)] [.br (xs.map byteN) xs.length 5 1] (rowA 20000 (xs ++ replyB r)) [.br ((xs ++ replyB r).map byteN) (xs ++ replyB r).length 5 1] := by
  obtain ⟨Y, M, R⟩ := r
  obtain ⟨⟨hM, hM2⟩, hR, hR2⟩ := hc
  simp only at hM hM2 hR hR2
  unfold OkLen at hM hR
  refine afn_of [] Try.func16 rfl Try.ntmps16 (Nat.le_of_ble_eq_true rfl) (Nat.le_of_ble_eq_true rfl) fun w0 G0 B0 Pr hB0 => ?_
  simp only [start, argMap, List.cons_append, List.nil_append, rowA, replyA]
  cases Y
  · have hr : replyB ⟨false, M, R⟩ = [0] := rfl
    rw [hr] at hl ⊢
    simp only [List.length_cons, List.length_nil] at hl
    repeat' (first
      | (with_reducible refine hY _ ?_; clear hY Y)
      | ((with_reducible first | refine run_n rfl (runN fun K' hK' => todo ?_) | refine hK' _ (eqTo2 fun Y hY => todo ?_) | refine run_g rfl (eqTo2 fun Y hY => todo ?_) | refine eqTo2 fun Y hY => todo ?_ | refine runN fun K' hK' => todo ?_ | refine aw_regionB tk0 lo_reply (eqTo2 fun Y hY => todo ?_) | refine todo ?_ | refine qretT_r ?_ | refine draw_n rfl (drawN fun K' hK' => todo ?_) | refine hK' _ _ (eqTo2 fun Y hY => todo ?_) | refine draw_g rfl (eqTo2 fun Y hY => todo ?_) | refine drawN fun K' hK' => todo ?_ | refine qretT_n ?_); (try clear hK' K'); (try dsimp only [aop]); try simp only [go_sem, ↓reduceIte, Nat.reduceEqDiff, Nat.reduceLT, Nat.reduceLeDiff, Nat.reduceAdd, Nat.reduceSub, Nat.reduceMul, Nat.reduceBEq, Nat.reduceBNe, Nat.reducePow, Int.reduceToNat, Int.reduceLE, Int.reduceLT, Int.reduceMul, Int.reduceEq, Int.reducePow, Int.reduceAdd, Int.reduceSub, Int.reduceNeg, reduceCtorEq, lo_reply, Try.results16])
      | (with_reducible first | refine run_nil ?_ | refine guardG_n rfl ?_ | refine guardG_y ?_ | refine guardG_u ?_ | refine andD ?_ ?_ | refine then_n ?_ | refine aw_seq ?_ | refine regN fun K hK => ?_ | refine condV_t ?_ | refine condV_f ?_ | refine then_e ?_ | refine then_r ?_ | refine block_n ?_ | refine block_r ?_ | refine block_e ?_ | refine aw_block ?_ | refine aw_skip ?_ | refine aw_ret ?_ | refine aw_exit ?_ | refine aw_loop ?_ | refine aw_condc_t ?_ | refine aw_condc_f ?_ | refine draw_nil ?_ | refine regD fun K hK => ?_)
      | (with_reducible refine hK _ ?_; clear hK K)
      | (with_reducible refine hK _ _ ?_ ?_; (· kernel_rfl); clear hK K)
      | ((with_reducible first | refine gO_some ?_ ?_ | refine aw_condE ?_ ?_ | refine block_o ?_ ?_); (· decide))
      | (with_reducible refine aw_drawB tk0 lo_reply ?_ ?_; (· kernel_rfl))
      | ((with_reducible first | refine guardG_b (fun hc => ?_) (fun hc => ?_) | refine condV_b (fun hc => ?_) (fun hc => ?_)) <;> (try simp only [decide_eq_true_eq, decide_eq_false_iff_not, Bool.not_true, Bool.not_false, Bool.not_eq_true', Bool.not_eq_false'] at hc) <;> (try (exfalso; omega)))
      | (with_reducible refine and_i ?_ ?_; (· first | omega | assumption | (refine ⟨?_, ?_⟩ <;> (first | omega | assumption | (simp only [List.length_append, List.length_map, List.length_cons, List.length_nil] <;> omega))) | (refine ⟨?_, ?_, ?_⟩ <;> (first | omega | assumption | (simp only [List.length_append, List.length_map, List.length_cons, List.length_nil] <;> omega))) | (simp only [List.length_append, List.length_map, List.length_cons, List.length_nil] <;> omega)))
      | (with_reducible refine ex_seal ?_)
      | fail)
    simp [byteN]
  · have hr : replyB ⟨true, M, R⟩ = 1 :: (several lemmaB M ++ several clauseB R) := rfl
    rw [hr] at hl ⊢
    simp only [several, List.length_append, List.length_cons] at hl
    have hln : (xs ++ [1]).length = xs.length + 1 := by simp
    repeat' (first
      | (with_reducible refine hY _ ?_; clear hY Y)
      | ((with_reducible first | refine run_n rfl (runN fun K' hK' => todo ?_) | refine hK' _ (eqTo2 fun Y hY => todo ?_) | refine run_g rfl (eqTo2 fun Y hY => todo ?_) | refine eqTo2 fun Y hY => todo ?_ | refine runN fun K' hK' => todo ?_ | refine aw_regionB tk0 lo_reply (eqTo2 fun Y hY => todo ?_) | refine todo ?_ | refine qretT_r ?_ | refine draw_n rfl (drawN fun K' hK' => todo ?_) | refine hK' _ _ (eqTo2 fun Y hY => todo ?_) | refine draw_g rfl (eqTo2 fun Y hY => todo ?_) | refine drawN fun K' hK' => todo ?_ | refine qretT_n ?_); (try clear hK' K'); (try dsimp only [aop]); try simp only [go_sem, ↓reduceIte, Nat.reduceEqDiff, Nat.reduceLT, Nat.reduceLeDiff, Nat.reduceAdd, Nat.reduceSub, Nat.reduceMul, Nat.reduceBEq, Nat.reduceBNe, Nat.reducePow, Int.reduceToNat, Int.reduceLE, Int.reduceLT, Int.reduceMul, Int.reduceEq, Int.reducePow, Int.reduceAdd, Int.reduceSub, Int.reduceNeg, reduceCtorEq, lo_reply, Try.results16])
      | (with_reducible first | refine run_nil ?_ | refine guardG_n rfl ?_ | refine guardG_y ?_ | refine guardG_u ?_ | refine andD ?_ ?_ | refine then_n ?_ | refine aw_seq ?_ | refine regN fun K hK => ?_ | refine condV_t ?_ | refine condV_f ?_ | refine then_e ?_ | refine then_r ?_ | refine block_n ?_ | refine block_r ?_ | refine block_e ?_ | refine aw_block ?_ | refine aw_skip ?_ | refine aw_ret ?_ | refine aw_exit ?_ | refine aw_loop ?_ | refine aw_condc_t ?_ | refine aw_condc_f ?_ | refine draw_nil ?_ | refine regD fun K hK => ?_)
      | (with_reducible refine hK _ ?_; clear hK K)
      | (with_reducible refine hK _ _ ?_ ?_; (· kernel_rfl); clear hK K)
      | ((with_reducible first | refine gO_some ?_ ?_ | refine aw_condE ?_ ?_ | refine block_o ?_ ?_); (· decide))
      | (with_reducible refine aw_drawB tk0 lo_reply ?_ ?_; (· kernel_rfl))
      | ((with_reducible first | refine guardG_b (fun hc => ?_) (fun hc => ?_) | refine condV_b (fun hc => ?_) (fun hc => ?_)) <;> (try simp only [decide_eq_true_eq, decide_eq_false_iff_not, Bool.not_true, Bool.not_false, Bool.not_eq_true', Bool.not_eq_false'] at hc) <;> (try (exfalso; omega)))
      | (with_reducible refine and_i ?_ ?_; (· first | omega | assumption | (refine ⟨?_, ?_⟩ <;> (first | omega | assumption | (simp only [List.length_append, List.length_map, List.length_cons, List.length_nil] <;> omega))) | (refine ⟨?_, ?_, ?_⟩ <;> (first | omega | assumption | (simp only [List.length_append, List.length_map, List.length_cons, List.length_nil] <;> omega))) | (simp only [List.length_append, List.length_map, List.length_cons, List.length_nil] <;> omega)))
      | (with_reducible refine ex_callT (number_p (xs ++ [1]) _ ?_ ?_ ?_ ?_ ?_) ?_; (· simp [byteN]); (· simp); (· omega); (· omega); (· omega))
      | (with_reducible refine ex_seal ?_)
      | fail)
    have hml := fm_len (f := lemmaA) (k := 2) (fun _ => rfl) M
    refine awl_ind (α := Nat) (fun k => [(0, rowA 20000 (xs ++ [1] ++ num M.length ++ (M.take k).flatMap lemmaB)), (3, .loc 10003 0), (25, .sl (M.flatMap lemmaA) M.length .none), (26, intA M.length), (27, intA k),
        (10003, .bc [.c (.bool true), .sl (M.flatMap lemmaA) M.length .none, .sl (R.map intsA) R.length .none] 43), (20000, .br ((xs ++ [1] ++ num M.length ++ (M.take k).flatMap lemmaB).map byteN) (xs ++ [1] ++ num M.length ++ (M.take k).flatMap lemmaB).length 5 1)])
      (fun k => k ≤ M.length) (fun k => M.length - k) 0 [0, 3, 25, 26, 27] ?_ (Nat.zero_le _) ?_
    · simp only [go_sem, ↓reduceIte, Nat.reduceEqDiff, Nat.reduceLT, Nat.reduceLeDiff, Nat.reduceAdd, Nat.reduceSub, Nat.reduceMul, Nat.reduceBEq, Nat.reduceBNe, Nat.reducePow, Int.reduceToNat, Int.reduceLE, Int.reduceLT, Int.reduceMul, Int.reduceEq, Int.reducePow, Int.reduceAdd, Int.reduceSub, Int.reduceNeg, reduceCtorEq]; simp [intA]
    intro k hk ih
    simp only [rowA, intA]
    by_cases hlt : k < M.length
    · have hle := fm_le (f := lemmaB) hlt
      have hst := take_fm (f := lemmaB) hlt
      have hat := fm_at (f := lemmaA) (k := 2) (fun _ => rfl) hlt
      obtain ⟨ho1, ho2⟩ := hM2 M[k] (List.getElem_mem hlt)
      generalize M[k] = m at *
      simp only [lemmaB, List.length_append] at hle
      repeat' (first
        | (with_reducible refine hY _ ?_; clear hY Y)
        | ((with_reducible first | refine run_n rfl (runN fun K' hK' => todo ?_) | refine hK' _ (eqTo2 fun Y hY => todo ?_) | refine run_g rfl (eqTo2 fun Y hY => todo ?_) | refine eqTo2 fun Y hY => todo ?_ | refine runN fun K' hK' => todo ?_ | refine aw_regionB tk0 lo_reply (eqTo2 fun Y hY => todo ?_) | refine todo ?_ | refine qretT_r ?_ | refine draw_n rfl (drawN fun K' hK' => todo ?_) | refine hK' _ _ (eqTo2 fun Y hY => todo ?_) | refine draw_g rfl (eqTo2 fun Y hY => todo ?_) | refine drawN fun K' hK' => todo ?_ | refine qretT_n ?_); (try clear hK' K'); (try dsimp only [aop]); try simp only [go_sem, ↓reduceIte, Nat.reduceEqDiff, Nat.reduceLT, Nat.reduceLeDiff, Nat.reduceAdd, Nat.reduceSub, Nat.reduceMul, Nat.reduceBEq, Nat.reduceBNe, Nat.reducePow, Int.reduceToNat, Int.reduceLE, Int.reduceLT, Int.reduceMul, Int.reduceEq, Int.reducePow, Int.reduceAdd, Int.reduceSub, Int.reduceNeg, reduceCtorEq, lo_reply, Try.results16, hat, hml])
        | (with_reducible first | refine run_nil ?_ | refine guardG_n rfl ?_ | refine guardG_y ?_ | refine guardG_u ?_ | refine andD ?_ ?_ | refine then_n ?_ | refine aw_seq ?_ | refine regN fun K hK => ?_ | refine condV_t ?_ | refine condV_f ?_ | refine then_e ?_ | refine then_r ?_ | refine block_n ?_ | refine block_r ?_ | refine block_e ?_ | refine aw_block ?_ | refine aw_skip ?_ | refine aw_ret ?_ | refine aw_exit ?_ | refine aw_loop ?_ | refine aw_condc_t ?_ | refine aw_condc_f ?_ | refine draw_nil ?_ | refine regD fun K hK => ?_)
        | (with_reducible refine hK _ ?_; clear hK K)
        | (with_reducible refine hK _ _ ?_ ?_; (· kernel_rfl); clear hK K)
        | ((with_reducible first | refine gO_some ?_ ?_ | refine aw_condE ?_ ?_ | refine block_o ?_ ?_); (· decide))
        | (with_reducible refine aw_drawB tk0 lo_reply ?_ ?_; (· kernel_rfl))
        | ((with_reducible first | refine guardG_b (fun hc => ?_) (fun hc => ?_) | refine condV_b (fun hc => ?_) (fun hc => ?_)) <;> (try simp only [decide_eq_true_eq, decide_eq_false_iff_not, Bool.not_true, Bool.not_false, Bool.not_eq_true', Bool.not_eq_false'] at hc) <;> (try (exfalso; omega)))
        | (with_reducible refine and_i ?_ ?_; (· first | omega | assumption | (refine ⟨?_, ?_⟩ <;> (first | omega | assumption | (simp only [List.length_append, List.length_map, List.length_cons, List.length_nil] <;> omega))) | (refine ⟨?_, ?_, ?_⟩ <;> (first | omega | assumption | (simp only [List.length_append, List.length_map, List.length_cons, List.length_nil] <;> omega))) | (simp only [List.length_append, List.length_map, List.length_cons, List.length_nil] <;> omega)))
        | (with_reducible refine ex_callT (clause_o _ m.L ho1 ?_) ?_; (· (try simp only [List.length_append, List.length_map, List.length_cons, List.length_nil, List.take_length]); omega))
        | (with_reducible refine ex_callT (steps_o _ m.S ho2 ?_) ?_; (· (try simp only [List.length_append, List.length_map, List.length_cons, List.length_nil, List.take_length]); omega))
        | (with_reducible refine ex_seal ?_)
        | fail)
      refine awl_keep [0, 3, 25, 26, 27] (by simp only [go_sem, ↓reduceIte, Nat.reduceEqDiff, Nat.reduceLT, Nat.reduceLeDiff, Nat.reduceAdd, Nat.reduceSub, Nat.reduceMul, Nat.reduceBEq, Nat.reduceBNe, Nat.reducePow, Int.reduceToNat, Int.reduceLE, Int.reduceLT, Int.reduceMul, Int.reduceEq, Int.reducePow, Int.reduceAdd, Int.reduceSub, Int.reduceNeg, reduceCtorEq]; exact rfl) ?_
      refine awl_eq (ih (k + 1) (by omega) (by omega)) ?_
      simp (disch := omega) [wrap_i64, hst, intA, lemmaB, List.append_assoc]
    · obtain rfl : k = M.length := by omega
      clear ih
      simp only [List.take_length]
      repeat' (first
        | (with_reducible refine hY _ ?_; clear hY Y)
        | ((with_reducible first | refine run_n rfl (runN fun K' hK' => todo ?_) | refine hK' _ (eqTo2 fun Y hY => todo ?_) | refine run_g rfl (eqTo2 fun Y hY => todo ?_) | refine eqTo2 fun Y hY => todo ?_ | refine runN fun K' hK' => todo ?_ | refine aw_regionB tk0 lo_reply (eqTo2 fun Y hY => todo ?_) | refine todo ?_ | refine qretT_r ?_ | refine draw_n rfl (drawN fun K' hK' => todo ?_) | refine hK' _ _ (eqTo2 fun Y hY => todo ?_) | refine draw_g rfl (eqTo2 fun Y hY => todo ?_) | refine drawN fun K' hK' => todo ?_ | refine qretT_n ?_); (try clear hK' K'); (try dsimp only [aop]); try simp only [go_sem, ↓reduceIte, Nat.reduceEqDiff, Nat.reduceLT, Nat.reduceLeDiff, Nat.reduceAdd, Nat.reduceSub, Nat.reduceMul, Nat.reduceBEq, Nat.reduceBNe, Nat.reducePow, Int.reduceToNat, Int.reduceLE, Int.reduceLT, Int.reduceMul, Int.reduceEq, Int.reducePow, Int.reduceAdd, Int.reduceSub, Int.reduceNeg, reduceCtorEq, lo_reply, Try.results16])
        | (with_reducible first | refine run_nil ?_ | refine guardG_n rfl ?_ | refine guardG_y ?_ | refine guardG_u ?_ | refine andD ?_ ?_ | refine then_n ?_ | refine aw_seq ?_ | refine regN fun K hK => ?_ | refine condV_t ?_ | refine condV_f ?_ | refine then_e ?_ | refine then_r ?_ | refine block_n ?_ | refine block_r ?_ | refine block_e ?_ | refine aw_block ?_ | refine aw_skip ?_ | refine aw_ret ?_ | refine aw_exit ?_ | refine aw_loop ?_ | refine aw_condc_t ?_ | refine aw_condc_f ?_ | refine draw_nil ?_ | refine regD fun K hK => ?_)
        | (with_reducible refine hK _ ?_; clear hK K)
        | (with_reducible refine hK _ _ ?_ ?_; (· kernel_rfl); clear hK K)
        | ((with_reducible first | refine gO_some ?_ ?_ | refine aw_condE ?_ ?_ | refine block_o ?_ ?_); (· decide))
        | (with_reducible refine aw_drawB tk0 lo_reply ?_ ?_; (· kernel_rfl))
        | ((with_reducible first | refine guardG_b (fun hc => ?_) (fun hc => ?_) | refine condV_b (fun hc => ?_) (fun hc => ?_)) <;> (try simp only [decide_eq_true_eq, decide_eq_false_iff_not, Bool.not_true, Bool.not_false, Bool.not_eq_true', Bool.not_eq_false'] at hc) <;> (try (exfalso; omega)))
        | (with_reducible refine and_i ?_ ?_; (· first | omega | assumption | (refine ⟨?_, ?_⟩ <;> (first | omega | assumption | (simp only [List.length_append, List.length_map, List.length_cons, List.length_nil] <;> omega))) | (refine ⟨?_, ?_, ?_⟩ <;> (first | omega | assumption | (simp only [List.length_append, List.length_map, List.length_cons, List.length_nil] <;> omega))) | (simp only [List.length_append, List.length_map, List.length_cons, List.length_nil] <;> omega)))
        | (with_reducible refine ex_callT (number_o _ _ ?_ ?_ ?_) ?_; (· omega); (· omega); (· (try simp only [List.length_append, List.length_map, List.length_cons, List.length_nil, List.take_length]); omega))
        | (with_reducible refine ex_seal ?_)
        | fail)
      refine awl_ind (α := Nat) (fun k => [(0, rowA 20000 (xs ++ [1] ++ num M.length ++ M.flatMap lemmaB ++ num R.length ++ (R.take k).flatMap clauseB)), (47, .sl (R.map intsA) R.length .none), (48, intA R.length), (49, intA k),
          (20000, .br ((xs ++ [1] ++ num M.length ++ M.flatMap lemmaB ++ num R.length ++ (R.take k).flatMap clauseB).map byteN) (xs ++ [1] ++ num M.length ++ M.flatMap lemmaB ++ num R.length ++ (R.take k).flatMap clauseB).length 5 1)])
        (fun k => k ≤ R.length) (fun k => R.length - k) 0 [0, 47, 48, 49] ?_ (Nat.zero_le _) ?_
      · simp only [go_sem, ↓reduceIte, Nat.reduceEqDiff, Nat.reduceLT, Nat.reduceLeDiff, Nat.reduceAdd, Nat.reduceSub, Nat.reduceMul, Nat.reduceBEq, Nat.reduceBNe, Nat.reducePow, Int.reduceToNat, Int.reduceLE, Int.reduceLT, Int.reduceMul, Int.reduceEq, Int.reducePow, Int.reduceAdd, Int.reduceSub, Int.reduceNeg, reduceCtorEq]; simp [intA]
      intro k hk2 ih
      simp only [rowA, intA]
      by_cases hlt : k < R.length
      · have hle := fm_le (f := clauseB) hlt
        have hst := take_fm (f := clauseB) hlt
        have ho := hR2 R[k] (List.getElem_mem hlt)
        have hat := map_at (f := intsA) hlt
        generalize R[k] = c at *
        repeat' (first
          | (with_reducible refine hY _ ?_; clear hY Y)
          | ((with_reducible first | refine run_n rfl (runN fun K' hK' => todo ?_) | refine hK' _ (eqTo2 fun Y hY => todo ?_) | refine run_g rfl (eqTo2 fun Y hY => todo ?_) | refine eqTo2 fun Y hY => todo ?_ | refine runN fun K' hK' => todo ?_ | refine aw_regionB tk0 lo_reply (eqTo2 fun Y hY => todo ?_) | refine todo ?_ | refine qretT_r ?_ | refine draw_n rfl (drawN fun K' hK' => todo ?_) | refine hK' _ _ (eqTo2 fun Y hY => todo ?_) | refine draw_g rfl (eqTo2 fun Y hY => todo ?_) | refine drawN fun K' hK' => todo ?_ | refine qretT_n ?_); (try clear hK' K'); (try dsimp only [aop]); try simp only [go_sem, ↓reduceIte, Nat.reduceEqDiff, Nat.reduceLT, Nat.reduceLeDiff, Nat.reduceAdd, Nat.reduceSub, Nat.reduceMul, Nat.reduceBEq, Nat.reduceBNe, Nat.reducePow, Int.reduceToNat, Int.reduceLE, Int.reduceLT, Int.reduceMul, Int.reduceEq, Int.reducePow, Int.reduceAdd, Int.reduceSub, Int.reduceNeg, reduceCtorEq, lo_reply, Try.results16, hat])
          | (with_reducible first | refine run_nil ?_ | refine guardG_n rfl ?_ | refine guardG_y ?_ | refine guardG_u ?_ | refine andD ?_ ?_ | refine then_n ?_ | refine aw_seq ?_ | refine regN fun K hK => ?_ | refine condV_t ?_ | refine condV_f ?_ | refine then_e ?_ | refine then_r ?_ | refine block_n ?_ | refine block_r ?_ | refine block_e ?_ | refine aw_block ?_ | refine aw_skip ?_ | refine aw_ret ?_ | refine aw_exit ?_ | refine aw_loop ?_ | refine aw_condc_t ?_ | refine aw_condc_f ?_ | refine draw_nil ?_ | refine regD fun K hK => ?_)
          | (with_reducible refine hK _ ?_; clear hK K)
          | (with_reducible refine hK _ _ ?_ ?_; (· kernel_rfl); clear hK K)
          | ((with_reducible first | refine gO_some ?_ ?_ | refine aw_condE ?_ ?_ | refine block_o ?_ ?_); (· decide))
          | (with_reducible refine aw_drawB tk0 lo_reply ?_ ?_; (· kernel_rfl))
          | ((with_reducible first | refine guardG_b (fun hc => ?_) (fun hc => ?_) | refine condV_b (fun hc => ?_) (fun hc => ?_)) <;> (try simp only [decide_eq_true_eq, decide_eq_false_iff_not, Bool.not_true, Bool.not_false, Bool.not_eq_true', Bool.not_eq_false'] at hc) <;> (try (exfalso; omega)))
          | (with_reducible refine and_i ?_ ?_; (· first | omega | assumption | (refine ⟨?_, ?_⟩ <;> (first | omega | assumption | (simp only [List.length_append, List.length_map, List.length_cons, List.length_nil] <;> omega))) | (refine ⟨?_, ?_, ?_⟩ <;> (first | omega | assumption | (simp only [List.length_append, List.length_map, List.length_cons, List.length_nil] <;> omega))) | (simp only [List.length_append, List.length_map, List.length_cons, List.length_nil] <;> omega)))
          | (with_reducible refine ex_callT (clause_o _ c ho ?_) ?_; (· (try simp only [List.length_append, List.length_map, List.length_cons, List.length_nil, List.take_length]); omega))
          | (with_reducible refine ex_seal ?_)
          | fail)
        refine awl_keep [0, 47, 48, 49] (by simp only [go_sem, ↓reduceIte, Nat.reduceEqDiff, Nat.reduceLT, Nat.reduceLeDiff, Nat.reduceAdd, Nat.reduceSub, Nat.reduceMul, Nat.reduceBEq, Nat.reduceBNe, Nat.reducePow, Int.reduceToNat, Int.reduceLE, Int.reduceLT, Int.reduceMul, Int.reduceEq, Int.reducePow, Int.reduceAdd, Int.reduceSub, Int.reduceNeg, reduceCtorEq]; exact rfl) ?_
        refine awl_eq (ih (k + 1) (by omega) (by omega)) ?_
        simp (disch := omega) [wrap_i64, hst, intA, List.append_assoc]
      · obtain rfl : k = R.length := by omega
        clear ih
        repeat' (first
          | (with_reducible refine hY _ ?_; clear hY Y)
          | ((with_reducible first | refine run_n rfl (runN fun K' hK' => todo ?_) | refine hK' _ (eqTo2 fun Y hY => todo ?_) | refine run_g rfl (eqTo2 fun Y hY => todo ?_) | refine eqTo2 fun Y hY => todo ?_ | refine runN fun K' hK' => todo ?_ | refine aw_regionB tk0 lo_reply (eqTo2 fun Y hY => todo ?_) | refine todo ?_ | refine qretT_r ?_ | refine draw_n rfl (drawN fun K' hK' => todo ?_) | refine hK' _ _ (eqTo2 fun Y hY => todo ?_) | refine draw_g rfl (eqTo2 fun Y hY => todo ?_) | refine drawN fun K' hK' => todo ?_ | refine qretT_n ?_); (try clear hK' K'); (try dsimp only [aop]); try simp only [go_sem, ↓reduceIte, Nat.reduceEqDiff, Nat.reduceLT, Nat.reduceLeDiff, Nat.reduceAdd, Nat.reduceSub, Nat.reduceMul, Nat.reduceBEq, Nat.reduceBNe, Nat.reducePow, Int.reduceToNat, Int.reduceLE, Int.reduceLT, Int.reduceMul, Int.reduceEq, Int.reducePow, Int.reduceAdd, Int.reduceSub, Int.reduceNeg, reduceCtorEq, lo_reply, Try.results16])
          | (with_reducible first | refine run_nil ?_ | refine guardG_n rfl ?_ | refine guardG_y ?_ | refine guardG_u ?_ | refine andD ?_ ?_ | refine then_n ?_ | refine aw_seq ?_ | refine regN fun K hK => ?_ | refine condV_t ?_ | refine condV_f ?_ | refine then_e ?_ | refine then_r ?_ | refine block_n ?_ | refine block_r ?_ | refine block_e ?_ | refine aw_block ?_ | refine aw_skip ?_ | refine aw_ret ?_ | refine aw_exit ?_ | refine aw_loop ?_ | refine aw_condc_t ?_ | refine aw_condc_f ?_ | refine draw_nil ?_ | refine regD fun K hK => ?_)
          | (with_reducible refine hK _ ?_; clear hK K)
          | (with_reducible refine hK _ _ ?_ ?_; (· kernel_rfl); clear hK K)
          | ((with_reducible first | refine gO_some ?_ ?_ | refine aw_condE ?_ ?_ | refine block_o ?_ ?_); (· decide))
          | (with_reducible refine aw_drawB tk0 lo_reply ?_ ?_; (· kernel_rfl))
          | ((with_reducible first | refine guardG_b (fun hc => ?_) (fun hc => ?_) | refine condV_b (fun hc => ?_) (fun hc => ?_)) <;> (try simp only [decide_eq_true_eq, decide_eq_false_iff_not, Bool.not_true, Bool.not_false, Bool.not_eq_true', Bool.not_eq_false'] at hc) <;> (try (exfalso; omega)))
          | (with_reducible refine and_i ?_ ?_; (· first | omega | assumption | (refine ⟨?_, ?_⟩ <;> (first | omega | assumption | (simp only [List.length_append, List.length_map, List.length_cons, List.length_nil] <;> omega))) | (refine ⟨?_, ?_, ?_⟩ <;> (first | omega | assumption | (simp only [List.length_append, List.length_map, List.length_cons, List.length_nil] <;> omega))) | (simp only [List.length_append, List.length_map, List.length_cons, List.length_nil] <;> omega)))
          | (with_reducible refine ex_seal ?_)
          | fail)
        simp [several, Nat.add_assoc]

theorem reply_p {cs : List AV} {n : Nat} (xs : List Nat) (r : ReplyD) (h1 : cs = xs.map byteN) (h2 : n = xs.length) (hc : OkReply r) (hl : xs.length + (replyB r).length + 10 ≤ 140737488355328) :
    AFn Try.prog 16 [.ow 20000 0 n n, .agg (replyA r)] [.br cs n 5 1] (rowA 20000 (xs ++ replyB r)) [.br ((xs ++ replyB r).map byteN) (xs ++ replyB r).length 5 1] := by
  subst h1; subst h2; exact reply_o xs r hc hl
def lo_write : Nat → List Nat
  | 0 => [0]
  | 1 => [1]
  | 2 => [1, 4]
  | 3 => [4, 14, 15, 16]
  | 4 => [4, 14, 15, 16]
  | 5 => [4, 6, 14, 15, 16]
  | 6 => [4, 6, 14, 15, 16]
  | 7 => [4, 6, 14, 15, 16]
  | 8 => [4, 14, 15, 16, 34, 35, 36]
  | 9 => [4, 14, 15, 16, 34, 35, 36]
  | 10 => [4, 8, 14, 15, 16, 34, 35, 36]
  | 11 => [4, 14, 15, 16, 34, 35, 36]
  | 12 => []
  | 13 => [4, 14, 15, 16, 34, 35, 36]
  | 14 => [4, 14, 15, 16]
  | 15 => [4]
  | 16 => []
  | 17 => [4]
  | _ => []
set_option maxRecDepth 100000 in
set_option maxHeartbeats 8000000 in
theorem write_o (w : List RecordD) (hw : OkLen w ∧ ∀ r ∈ w, OkRecord r) (hfit : (witnessB w).length ≤ 4194304) :
    AFn Try.prog 8 [.agg [recordsA w]] [] (.tup [rowA 20000 (witnessB w), .c .nilIface]) [.br ((witnessB w).map byteN) (witnessB w).length 5 1] := by
  obtain ⟨hw1, hw2⟩ := hw
  unfold OkLen at hw1
  have hl' := hfit
  simp only [witnessB, several, List.length_append] at hl'
  refine afn_of [10012] Try.func8 rfl Try.ntmps8 (Nat.le_of_ble_eq_true rfl) (Nat.le_of_ble_eq_true rfl) fun w0 G0 B0 Pr hB0 => ?_
  simp only [start, argMap, List.cons_append, List.nil_append, recordsA]
  repeat' (first
    | (with_reducible refine hY _ ?_; clear hY Y)
    | ((with_reducible first | refine run_n rfl (runN fun K' hK' => todo ?_) | refine hK' _ (eqTo2 fun Y hY => todo ?_) | refine run_g rfl (eqTo2 fun Y hY => todo ?_) | refine eqTo2 fun Y hY => todo ?_ | refine runN fun K' hK' => todo ?_ | refine aw_regionB tk0 lo_write (eqTo2 fun Y hY => todo ?_) | refine todo ?_ | refine qretT_r ?_ | refine draw_n rfl (drawN fun K' hK' => todo ?_) | refine hK' _ _ (eqTo2 fun Y hY => todo ?_) | refine draw_g rfl (eqTo2 fun Y hY => todo ?_) | refine drawN fun K' hK' => todo ?_ | refine qretT_n ?_); (try clear hK' K'); (try dsimp only [aop]); try simp only [go_sem, ↓reduceIte, Nat.reduceEqDiff, Nat.reduceLT, Nat.reduceLeDiff, Nat.reduceAdd, Nat.reduceSub, Nat.reduceMul, Nat.reduceBEq, Nat.reduceBNe, Nat.reducePow, Int.reduceToNat, Int.reduceLE, Int.reduceLT, Int.reduceMul, Int.reduceEq, Int.reducePow, Int.reduceAdd, Int.reduceSub, Int.reduceNeg, reduceCtorEq, lo_write, Try.results8])
    | (with_reducible first | refine run_nil ?_ | refine guardG_n rfl ?_ | refine guardG_y ?_ | refine guardG_u ?_ | refine andD ?_ ?_ | refine then_n ?_ | refine aw_seq ?_ | refine regN fun K hK => ?_ | refine condV_t ?_ | refine condV_f ?_ | refine then_e ?_ | refine then_r ?_ | refine block_n ?_ | refine block_r ?_ | refine block_e ?_ | refine aw_block ?_ | refine aw_skip ?_ | refine aw_ret ?_ | refine aw_exit ?_ | refine aw_loop ?_ | refine aw_condc_t ?_ | refine aw_condc_f ?_ | refine draw_nil ?_ | refine regD fun K hK => ?_)
    | (with_reducible refine hK _ ?_; clear hK K)
    | (with_reducible refine hK _ _ ?_ ?_; (· kernel_rfl); clear hK K)
    | ((with_reducible first | refine gO_some ?_ ?_ | refine aw_condE ?_ ?_ | refine block_o ?_ ?_); (· decide))
    | (with_reducible refine aw_drawB tk0 lo_write ?_ ?_; (· kernel_rfl))
    | ((with_reducible first | refine guardG_b (fun hc => ?_) (fun hc => ?_) | refine condV_b (fun hc => ?_) (fun hc => ?_)) <;> (try simp only [decide_eq_true_eq, decide_eq_false_iff_not, Bool.not_true, Bool.not_false, Bool.not_eq_true', Bool.not_eq_false'] at hc) <;> (try (exfalso; omega)))
    | (with_reducible refine and_i ?_ ?_; (· first | omega | assumption | (refine ⟨?_, ?_⟩ <;> (first | omega | assumption | (simp only [List.length_append, List.length_map, List.length_cons, List.length_nil] <;> omega))) | (refine ⟨?_, ?_, ?_⟩ <;> (first | omega | assumption | (simp only [List.length_append, List.length_map, List.length_cons, List.length_nil] <;> omega))) | (simp only [List.length_append, List.length_map, List.length_cons, List.length_nil] <;> omega)))
    | (with_reducible refine ex_callT (number_n _ ?_ ?_) ?_; (· omega); (· omega))
    | (with_reducible refine ex_seal ?_)
    | fail)
  have hfl := fm_len (f := recordA) (k := 2) (fun _ => rfl) w
  refine awl_ind (α := Nat) (fun k => [(4, rowA 10012 (num w.length ++ (w.take k).flatMap recordB)), (14, .sl (w.flatMap recordA) w.length .none), (15, intA w.length), (16, intA k), (10012, .br ((num w.length ++ (w.take k).flatMap recordB).map byteN) (num w.length ++ (w.take k).flatMap recordB).length 5 1)])
    (fun k => k ≤ w.length) (fun k => w.length - k) 0 [4, 14, 15, 16] ?_ (Nat.zero_le _) ?_
  · simp only [go_sem, ↓reduceIte, Nat.reduceEqDiff, Nat.reduceLT, Nat.reduceLeDiff, Nat.reduceAdd, Nat.reduceSub, Nat.reduceMul, Nat.reduceBEq, Nat.reduceBNe, Nat.reducePow, Int.reduceToNat, Int.reduceLE, Int.reduceLT, Int.reduceMul, Int.reduceEq, Int.reducePow, Int.reduceAdd, Int.reduceSub, Int.reduceNeg, reduceCtorEq]; simp [intA]
  intro k hk ih
  simp only [rowA, intA]
  by_cases hlt : k < w.length
  · have hle := fm_le (f := recordB) hlt
    have hst := take_fm (f := recordB) hlt
    have hat := fm_at (f := recordA) (k := 2) (fun _ => rfl) hlt
    obtain ⟨ho1, ho2, ho3⟩ := hw2 w[k] (List.getElem_mem hlt)
    unfold OkLen at ho2
    generalize w[k] = r at *
    obtain ⟨N, A⟩ := r
    simp only at ho1 ho2 ho3
    have hN : N.data.toList.length = N.size := by simp
    have hNm : N.data.toList.map byteA = (N.data.toList.map (·.toNat)).map byteN := by rw [List.map_map]; rfl
    simp only [recordB, several, List.length_append, List.length_map, hN] at hle
    repeat' (first
      | (with_reducible refine hY _ ?_; clear hY Y)
      | ((with_reducible first | refine run_n rfl (runN fun K' hK' => todo ?_) | refine hK' _ (eqTo2 fun Y hY => todo ?_) | refine run_g rfl (eqTo2 fun Y hY => todo ?_) | refine eqTo2 fun Y hY => todo ?_ | refine runN fun K' hK' => todo ?_ | refine aw_regionB tk0 lo_write (eqTo2 fun Y hY => todo ?_) | refine todo ?_ | refine qretT_r ?_ | refine draw_n rfl (drawN fun K' hK' => todo ?_) | refine hK' _ _ (eqTo2 fun Y hY => todo ?_) | refine draw_g rfl (eqTo2 fun Y hY => todo ?_) | refine drawN fun K' hK' => todo ?_ | refine qretT_n ?_); (try clear hK' K'); (try dsimp only [aop]); try simp only [go_sem, ↓reduceIte, Nat.reduceEqDiff, Nat.reduceLT, Nat.reduceLeDiff, Nat.reduceAdd, Nat.reduceSub, Nat.reduceMul, Nat.reduceBEq, Nat.reduceBNe, Nat.reducePow, Int.reduceToNat, Int.reduceLE, Int.reduceLT, Int.reduceMul, Int.reduceEq, Int.reducePow, Int.reduceAdd, Int.reduceSub, Int.reduceNeg, reduceCtorEq, lo_write, Try.results8, hat, hfl, hN])
      | (with_reducible first | refine run_nil ?_ | refine guardG_n rfl ?_ | refine guardG_y ?_ | refine guardG_u ?_ | refine andD ?_ ?_ | refine then_n ?_ | refine aw_seq ?_ | refine regN fun K hK => ?_ | refine condV_t ?_ | refine condV_f ?_ | refine then_e ?_ | refine then_r ?_ | refine block_n ?_ | refine block_r ?_ | refine block_e ?_ | refine aw_block ?_ | refine aw_skip ?_ | refine aw_ret ?_ | refine aw_exit ?_ | refine aw_loop ?_ | refine aw_condc_t ?_ | refine aw_condc_f ?_ | refine draw_nil ?_ | refine regD fun K hK => ?_)
      | (with_reducible refine hK _ ?_; clear hK K)
      | (with_reducible refine hK _ _ ?_ ?_; (· kernel_rfl); clear hK K)
      | ((with_reducible first | refine gO_some ?_ ?_ | refine aw_condE ?_ ?_ | refine block_o ?_ ?_); (· decide))
      | (with_reducible refine aw_drawB tk0 lo_write ?_ ?_; (· kernel_rfl))
      | ((with_reducible first | refine guardG_b (fun hc => ?_) (fun hc => ?_) | refine condV_b (fun hc => ?_) (fun hc => ?_)) <;> (try simp only [decide_eq_true_eq, decide_eq_false_iff_not, Bool.not_true, Bool.not_false, Bool.not_eq_true', Bool.not_eq_false'] at hc) <;> (try (exfalso; omega)))
      | (with_reducible refine and_i ?_ ?_; (· first | omega | assumption | (refine ⟨?_, ?_⟩ <;> (first | omega | assumption | (simp only [List.length_append, List.length_map, List.length_cons, List.length_nil] <;> omega))) | (refine ⟨?_, ?_, ?_⟩ <;> (first | omega | assumption | (simp only [List.length_append, List.length_map, List.length_cons, List.length_nil] <;> omega))) | (simp only [List.length_append, List.length_map, List.length_cons, List.length_nil] <;> omega)))
      | (with_reducible refine ex_callT (number_o _ _ ?_ ?_ ?_) ?_; (· omega); (· omega); (· (try simp only [List.length_append, List.length_map, List.length_cons, List.length_nil, List.take_length]); omega))
      | (with_reducible refine ex_callT (number_p (num w.length ++ (w.take k).flatMap recordB ++ num N.size ++ N.data.toList.map (·.toNat)) _ ?_ ?_ ?_ ?_ ?_) ?_; (· simp [hNm]); (· simp only [List.length_append, List.length_map, hN, Nat.add_assoc]); (· omega); (· omega); (· simp only [List.length_append, List.length_map, hN]; omega))
      | (with_reducible refine ex_seal ?_)
      | fail)
    refine awl_ind (α := Nat) (fun j => [(4, rowA 10012 (num w.length ++ (w.take k).flatMap recordB ++ num N.size ++ N.data.toList.map (·.toNat) ++ num A.length ++ (A.take j).flatMap replyB)), (14, .sl (w.flatMap recordA) w.length .none), (15, intA w.length), (16, intA k),
        (34, .sl (A.flatMap replyA) A.length .none), (35, intA A.length), (36, intA j), (10012, .br ((num w.length ++ (w.take k).flatMap recordB ++ num N.size ++ N.data.toList.map (·.toNat) ++ num A.length ++ (A.take j).flatMap replyB).map byteN) (num w.length ++ (w.take k).flatMap recordB ++ num N.size ++ N.data.toList.map (·.toNat) ++ num A.length ++ (A.take j).flatMap replyB).length 5 1)])
      (fun j => j ≤ A.length) (fun j => A.length - j) 0 [4, 14, 15, 16, 34, 35, 36] ?_ (Nat.zero_le _) ?_
    · simp only [go_sem, ↓reduceIte, Nat.reduceEqDiff, Nat.reduceLT, Nat.reduceLeDiff, Nat.reduceAdd, Nat.reduceSub, Nat.reduceMul, Nat.reduceBEq, Nat.reduceBNe, Nat.reducePow, Int.reduceToNat, Int.reduceLE, Int.reduceLT, Int.reduceMul, Int.reduceEq, Int.reducePow, Int.reduceAdd, Int.reduceSub, Int.reduceNeg, reduceCtorEq, List.append_nil]; rfl
    have hafl := fm_len (f := replyA) (k := 3) (fun _ => rfl) A
    intro j hj ih2
    simp only [rowA, intA]
    by_cases hlt2 : j < A.length
    · have hle2 := fm_le (f := replyB) hlt2
      have hst2 := take_fm (f := replyB) hlt2
      have hat2 := fm_at (f := replyA) (k := 3) (fun _ => rfl) hlt2
      have hor := ho3 A[j] (List.getElem_mem hlt2)
      generalize A[j] = x at *
      repeat' (first
        | (with_reducible refine hY _ ?_; clear hY Y)
        | ((with_reducible first | refine run_n rfl (runN fun K' hK' => todo ?_) | refine hK' _ (eqTo2 fun Y hY => todo ?_) | refine run_g rfl (eqTo2 fun Y hY => todo ?_) | refine eqTo2 fun Y hY => todo ?_ | refine runN fun K' hK' => todo ?_ | refine aw_regionB tk0 lo_write (eqTo2 fun Y hY => todo ?_) | refine todo ?_ | refine qretT_r ?_ | refine draw_n rfl (drawN fun K' hK' => todo ?_) | refine hK' _ _ (eqTo2 fun Y hY => todo ?_) | refine draw_g rfl (eqTo2 fun Y hY => todo ?_) | refine drawN fun K' hK' => todo ?_ | refine qretT_n ?_); (try clear hK' K'); (try dsimp only [aop]); try simp only [go_sem, ↓reduceIte, Nat.reduceEqDiff, Nat.reduceLT, Nat.reduceLeDiff, Nat.reduceAdd, Nat.reduceSub, Nat.reduceMul, Nat.reduceBEq, Nat.reduceBNe, Nat.reducePow, Int.reduceToNat, Int.reduceLE, Int.reduceLT, Int.reduceMul, Int.reduceEq, Int.reducePow, Int.reduceAdd, Int.reduceSub, Int.reduceNeg, reduceCtorEq, lo_write, Try.results8, hat2, hafl])
        | (with_reducible first | refine run_nil ?_ | refine guardG_n rfl ?_ | refine guardG_y ?_ | refine guardG_u ?_ | refine andD ?_ ?_ | refine then_n ?_ | refine aw_seq ?_ | refine regN fun K hK => ?_ | refine condV_t ?_ | refine condV_f ?_ | refine then_e ?_ | refine then_r ?_ | refine block_n ?_ | refine block_r ?_ | refine block_e ?_ | refine aw_block ?_ | refine aw_skip ?_ | refine aw_ret ?_ | refine aw_exit ?_ | refine aw_loop ?_ | refine aw_condc_t ?_ | refine aw_condc_f ?_ | refine draw_nil ?_ | refine regD fun K hK => ?_)
        | (with_reducible refine hK _ ?_; clear hK K)
        | (with_reducible refine hK _ _ ?_ ?_; (· kernel_rfl); clear hK K)
        | ((with_reducible first | refine gO_some ?_ ?_ | refine aw_condE ?_ ?_ | refine block_o ?_ ?_); (· decide))
        | (with_reducible refine aw_drawB tk0 lo_write ?_ ?_; (· kernel_rfl))
        | ((with_reducible first | refine guardG_b (fun hc => ?_) (fun hc => ?_) | refine condV_b (fun hc => ?_) (fun hc => ?_)) <;> (try simp only [decide_eq_true_eq, decide_eq_false_iff_not, Bool.not_true, Bool.not_false, Bool.not_eq_true', Bool.not_eq_false'] at hc) <;> (try (exfalso; omega)))
        | (with_reducible refine and_i ?_ ?_; (· first | omega | assumption | (refine ⟨?_, ?_⟩ <;> (first | omega | assumption | (simp only [List.length_append, List.length_map, List.length_cons, List.length_nil] <;> omega))) | (refine ⟨?_, ?_, ?_⟩ <;> (first | omega | assumption | (simp only [List.length_append, List.length_map, List.length_cons, List.length_nil] <;> omega))) | (simp only [List.length_append, List.length_map, List.length_cons, List.length_nil] <;> omega)))
        | (with_reducible refine ex_callT (reply_o _ x hor ?_) ?_; (· (try simp only [List.length_append, List.length_map, hN]); omega))
        | (with_reducible refine ex_seal ?_)
        | fail)
      · simp only [List.length_append, List.length_map, hN] at hc
        exact absurd hfit (by simp only [witnessB, several, List.length_append]; omega)
      · refine awl_keep [4, 14, 15, 16, 34, 35, 36] (by simp only [go_sem, ↓reduceIte, Nat.reduceEqDiff, Nat.reduceLT, Nat.reduceLeDiff, Nat.reduceAdd, Nat.reduceSub, Nat.reduceMul, Nat.reduceBEq, Nat.reduceBNe, Nat.reducePow, Int.reduceToNat, Int.reduceLE, Int.reduceLT, Int.reduceMul, Int.reduceEq, Int.reducePow, Int.reduceAdd, Int.reduceSub, Int.reduceNeg, reduceCtorEq]; exact rfl) ?_
        refine awl_eq (ih2 (j + 1) (by omega) (by omega)) ?_
        simp (disch := omega) [wrap_i64, hst2, intA, List.append_assoc]
    · obtain rfl : j = A.length := by omega
      clear ih2
      simp only [List.take_length]
      repeat' (first
        | (with_reducible refine hY _ ?_; clear hY Y)
        | ((with_reducible first | refine run_n rfl (runN fun K' hK' => todo ?_) | refine hK' _ (eqTo2 fun Y hY => todo ?_) | refine run_g rfl (eqTo2 fun Y hY => todo ?_) | refine eqTo2 fun Y hY => todo ?_ | refine runN fun K' hK' => todo ?_ | refine aw_regionB tk0 lo_write (eqTo2 fun Y hY => todo ?_) | refine todo ?_ | refine qretT_r ?_ | refine draw_n rfl (drawN fun K' hK' => todo ?_) | refine hK' _ _ (eqTo2 fun Y hY => todo ?_) | refine draw_g rfl (eqTo2 fun Y hY => todo ?_) | refine drawN fun K' hK' => todo ?_ | refine qretT_n ?_); (try clear hK' K'); (try dsimp only [aop]); try simp only [go_sem, ↓reduceIte, Nat.reduceEqDiff, Nat.reduceLT, Nat.reduceLeDiff, Nat.reduceAdd, Nat.reduceSub, Nat.reduceMul, Nat.reduceBEq, Nat.reduceBNe, Nat.reducePow, Int.reduceToNat, Int.reduceLE, Int.reduceLT, Int.reduceMul, Int.reduceEq, Int.reducePow, Int.reduceAdd, Int.reduceSub, Int.reduceNeg, reduceCtorEq, lo_write, Try.results8])
        | (with_reducible first | refine run_nil ?_ | refine guardG_n rfl ?_ | refine guardG_y ?_ | refine guardG_u ?_ | refine andD ?_ ?_ | refine then_n ?_ | refine aw_seq ?_ | refine regN fun K hK => ?_ | refine condV_t ?_ | refine condV_f ?_ | refine then_e ?_ | refine then_r ?_ | refine block_n ?_ | refine block_r ?_ | refine block_e ?_ | refine aw_block ?_ | refine aw_skip ?_ | refine aw_ret ?_ | refine aw_exit ?_ | refine aw_loop ?_ | refine aw_condc_t ?_ | refine aw_condc_f ?_ | refine draw_nil ?_ | refine regD fun K hK => ?_)
        | (with_reducible refine hK _ ?_; clear hK K)
        | (with_reducible refine hK _ _ ?_ ?_; (· kernel_rfl); clear hK K)
        | ((with_reducible first | refine gO_some ?_ ?_ | refine aw_condE ?_ ?_ | refine block_o ?_ ?_); (· decide))
        | (with_reducible refine aw_drawB tk0 lo_write ?_ ?_; (· kernel_rfl))
        | ((with_reducible first | refine guardG_b (fun hc => ?_) (fun hc => ?_) | refine condV_b (fun hc => ?_) (fun hc => ?_)) <;> (try simp only [decide_eq_true_eq, decide_eq_false_iff_not, Bool.not_true, Bool.not_false, Bool.not_eq_true', Bool.not_eq_false'] at hc) <;> (try (exfalso; omega)))
        | (with_reducible refine and_i ?_ ?_; (· first | omega | assumption | (refine ⟨?_, ?_⟩ <;> (first | omega | assumption | (simp only [List.length_append, List.length_map, List.length_cons, List.length_nil] <;> omega))) | (refine ⟨?_, ?_, ?_⟩ <;> (first | omega | assumption | (simp only [List.length_append, List.length_map, List.length_cons, List.length_nil] <;> omega))) | (simp only [List.length_append, List.length_map, List.length_cons, List.length_nil] <;> omega)))
        | (with_reducible refine ex_seal ?_)
        | fail)
      refine awl_keep [4, 14, 15, 16] (by simp only [go_sem, ↓reduceIte, Nat.reduceEqDiff, Nat.reduceLT, Nat.reduceLeDiff, Nat.reduceAdd, Nat.reduceSub, Nat.reduceMul, Nat.reduceBEq, Nat.reduceBNe, Nat.reducePow, Int.reduceToNat, Int.reduceLE, Int.reduceLT, Int.reduceMul, Int.reduceEq, Int.reducePow, Int.reduceAdd, Int.reduceSub, Int.reduceNeg, reduceCtorEq]; exact rfl) ?_
      refine awl_eq (ih (k + 1) (by omega) (by omega)) ?_
      simp (disch := omega) [wrap_i64, hst, intA, recordB, several, List.append_assoc]
  · obtain rfl : k = w.length := by omega
    clear ih
    simp only [List.take_length]
    repeat' (first
      | (with_reducible refine hY _ ?_; clear hY Y)
      | ((with_reducible first | refine run_n rfl (runN fun K' hK' => todo ?_) | refine hK' _ (eqTo2 fun Y hY => todo ?_) | refine run_g rfl (eqTo2 fun Y hY => todo ?_) | refine eqTo2 fun Y hY => todo ?_ | refine runN fun K' hK' => todo ?_ | refine aw_regionB tk0 lo_write (eqTo2 fun Y hY => todo ?_) | refine todo ?_ | refine qretT_r ?_ | refine draw_n rfl (drawN fun K' hK' => todo ?_) | refine hK' _ _ (eqTo2 fun Y hY => todo ?_) | refine draw_g rfl (eqTo2 fun Y hY => todo ?_) | refine drawN fun K' hK' => todo ?_ | refine qretT_n ?_); (try clear hK' K'); (try dsimp only [aop]); try simp only [go_sem, ↓reduceIte, Nat.reduceEqDiff, Nat.reduceLT, Nat.reduceLeDiff, Nat.reduceAdd, Nat.reduceSub, Nat.reduceMul, Nat.reduceBEq, Nat.reduceBNe, Nat.reducePow, Int.reduceToNat, Int.reduceLE, Int.reduceLT, Int.reduceMul, Int.reduceEq, Int.reducePow, Int.reduceAdd, Int.reduceSub, Int.reduceNeg, reduceCtorEq, lo_write, Try.results8])
      | (with_reducible first | refine run_nil ?_ | refine guardG_n rfl ?_ | refine guardG_y ?_ | refine guardG_u ?_ | refine andD ?_ ?_ | refine then_n ?_ | refine aw_seq ?_ | refine regN fun K hK => ?_ | refine condV_t ?_ | refine condV_f ?_ | refine then_e ?_ | refine then_r ?_ | refine block_n ?_ | refine block_r ?_ | refine block_e ?_ | refine aw_block ?_ | refine aw_skip ?_ | refine aw_ret ?_ | refine aw_exit ?_ | refine aw_loop ?_ | refine aw_condc_t ?_ | refine aw_condc_f ?_ | refine draw_nil ?_ | refine regD fun K hK => ?_)
      | (with_reducible refine hK _ ?_; clear hK K)
      | (with_reducible refine hK _ _ ?_ ?_; (· kernel_rfl); clear hK K)
      | ((with_reducible first | refine gO_some ?_ ?_ | refine aw_condE ?_ ?_ | refine block_o ?_ ?_); (· decide))
      | (with_reducible refine aw_drawB tk0 lo_write ?_ ?_; (· kernel_rfl))
      | ((with_reducible first | refine guardG_b (fun hc => ?_) (fun hc => ?_) | refine condV_b (fun hc => ?_) (fun hc => ?_)) <;> (try simp only [decide_eq_true_eq, decide_eq_false_iff_not, Bool.not_true, Bool.not_false, Bool.not_eq_true', Bool.not_eq_false'] at hc) <;> (try (exfalso; omega)))
      | (with_reducible refine and_i ?_ ?_; (· first | omega | assumption | (refine ⟨?_, ?_⟩ <;> (first | omega | assumption | (simp only [List.length_append, List.length_map, List.length_cons, List.length_nil] <;> omega))) | (refine ⟨?_, ?_, ?_⟩ <;> (first | omega | assumption | (simp only [List.length_append, List.length_map, List.length_cons, List.length_nil] <;> omega))) | (simp only [List.length_append, List.length_map, List.length_cons, List.length_nil] <;> omega)))
      | (with_reducible refine ex_seal ?_)
      | fail)
    · exact absurd hfit (by simp only [List.length_append] at hc; simp only [witnessB, several, List.length_append]; omega)
    · exact ⟨rfl, rfl⟩
end Go.Proofs.Ytjgfhblciapkfaa
