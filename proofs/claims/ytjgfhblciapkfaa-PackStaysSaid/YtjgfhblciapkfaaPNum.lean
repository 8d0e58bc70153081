/- pack.number in K. -/
import Derived.Test.YtjgfhblciapkfaaBits
namespace Go.Proofs.Ytjgfhblciapkfaa
set_option linter.unusedSimpArgs false
set_option linter.unusedVariables false
open Go.RowKit
def byteN (b : Nat) : AV := .c (.int .u8 (b : Int))
theorem number_k (xs : List Nat) (z : Int) (hz1 : -9223372036854775808 ≤ z) (hz2 : z ≤ 9223372036854775807) (hl : xs.length + 10 ≤ 140737488355328) :
    AFn Try.prog 15 [.sl (xs.map byteN) xs.length (.tok 20000), .c (.int .i64 z)] [.bt xs.length 5]
      (.sl ((xs ++ num z).map byteN) (xs ++ num z).length (.tok 20000)) [.bt (xs ++ num z).length 5] := by
  refine afn_of [] Try.func15 rfl Try.ntmps15 (Nat.le_of_ble_eq_true rfl) (Nat.le_of_ble_eq_true rfl) fun w0 G0 B0 Pr hB0 => ?_
  refine aw_seq ?_
  refine aw_regionL tk0 [0, 1] (fun K hK => ?_)
  simp only [go_sem, ↓reduceIte, Nat.reduceEqDiff, Nat.reduceLT, Nat.reduceLeDiff, Nat.reduceAdd, Nat.reduceSub, Nat.reduceMul, Nat.reduceBEq, Nat.reduceBNe, Nat.reducePow, Int.reduceToNat, Int.reduceLE, Int.reduceLT, Int.reduceMul, Int.reduceEq, Int.reducePow, Int.reduceAdd, Int.reduceSub, Int.reduceNeg, reduceCtorEq]
  refine hK _ (then_n (aw_seq ?_))
  clear hK K
  refine aw_regionL tk0 [0, 1] (fun K hK => ?_)
  simp only [go_sem, ↓reduceIte, Nat.reduceEqDiff, Nat.reduceLT, Nat.reduceLeDiff, Nat.reduceAdd, Nat.reduceSub, Nat.reduceMul, Nat.reduceBEq, Nat.reduceBNe, Nat.reducePow, Int.reduceToNat, Int.reduceLE, Int.reduceLT, Int.reduceMul, Int.reduceEq, Int.reducePow, Int.reduceAdd, Int.reduceSub, Int.reduceNeg, reduceCtorEq]
  refine hK _ (then_n (aw_seq (aw_block (aw_loop ?_))))
  clear hK K
  refine awl_ind (α := Nat × List Nat) (fun p => [(0, .sl ((xs ++ p.2).map byteN) (xs ++ p.2).length (.tok 20000)), (5, .c (.int .u64 (p.1 : Int))), (20000, .bt (xs ++ p.2).length 5)])
    (fun p => p.1 < 18446744073709551616 ∧ p.2 ++ nb p.1 = num z ∧ p.2.length + (nb p.1).length ≤ 10) (fun p => p.1) (zig z, []) [0, 5] ?_ ?_ ?_
  · simp only [go_sem, ↓reduceIte, Nat.reduceEqDiff, Nat.reduceLT, Nat.reduceLeDiff, Nat.reduceAdd, Nat.reduceSub, Nat.reduceMul, Nat.reduceBEq, Nat.reduceBNe, Nat.reducePow, Int.reduceToNat, Int.reduceLE, Int.reduceLT, Int.reduceMul, Int.reduceEq, Int.reducePow, Int.reduceAdd, Int.reduceSub, Int.reduceNeg, reduceCtorEq]
    have e := zig_bits hz1 hz2
    rw [← Int.fdiv_eq_ediv_of_nonneg z (by decide)] at e
    rw [e]
  · exact ⟨zig_lt ⟨hz1, hz2⟩, by simp [num], by simpa using nb_len10 (zig_lt ⟨hz1, hz2⟩)⟩
  · rintro ⟨N, pre⟩ ⟨hN, hp, hlen⟩ ih
    have hap : (xs ++ pre).length = xs.length + pre.length := List.length_append
    refine aw_seq (aw_seq ?_)
    simp only at ih hN hp hlen ⊢
    refine aw_regionL tk0 [0, 5] (fun K hK => ?_)
    simp only [go_sem, ↓reduceIte, Nat.reduceEqDiff, Nat.reduceLT, Nat.reduceLeDiff, Nat.reduceAdd, Nat.reduceSub, Nat.reduceMul, Nat.reduceBEq, Nat.reduceBNe, Nat.reducePow, Int.reduceToNat, Int.reduceLE, Int.reduceLT, Int.reduceMul, Int.reduceEq, Int.reducePow, Int.reduceAdd, Int.reduceSub, Int.reduceNeg, reduceCtorEq]
    refine hK _ (then_n ?_)
    clear hK K
    refine aw_cond (by decide) rfl (fun hc => ?_) (fun hc => ?_)
    · have hlt : ¬ N < 128 := by simp at hc; omega
      rw [nb_big hlt] at hp hlen
      simp only [List.length_cons] at hlen
      refine aw_skip (then_n (aw_block (aw_seq ?_)))
      refine aw_regionL tk0 [0, 5] (fun K hK => ?_)
      simp only [go_sem, ↓reduceIte, Nat.reduceEqDiff, Nat.reduceLT, Nat.reduceLeDiff, Nat.reduceAdd, Nat.reduceSub, Nat.reduceMul, Nat.reduceBEq, Nat.reduceBNe, Nat.reducePow, Int.reduceToNat, Int.reduceLE, Int.reduceLT, Int.reduceMul, Int.reduceEq, Int.reducePow, Int.reduceAdd, Int.reduceSub, Int.reduceNeg, reduceCtorEq]
      refine ⟨⟨by omega, by omega⟩, hK _ (then_n ?_)⟩
      clear hK K
      refine aw_regionL tk0 [0, 5] (fun K hK => ?_)
      simp only [go_sem, ↓reduceIte, Nat.reduceEqDiff, Nat.reduceLT, Nat.reduceLeDiff, Nat.reduceAdd, Nat.reduceSub, Nat.reduceMul, Nat.reduceBEq, Nat.reduceBNe, Nat.reducePow, Int.reduceToNat, Int.reduceLE, Int.reduceLT, Int.reduceMul, Int.reduceEq, Int.reducePow, Int.reduceAdd, Int.reduceSub, Int.reduceNeg, reduceCtorEq]
      refine hK _ (block_n (then_n ?_))
      clear hK K
      refine awl_keep [0, 5] (by simp only [go_sem, ↓reduceIte, Nat.reduceEqDiff, Nat.reduceLT, Nat.reduceLeDiff, Nat.reduceAdd, Nat.reduceSub, Nat.reduceMul, Nat.reduceBEq, Nat.reduceBNe, Nat.reducePow, Int.reduceToNat, Int.reduceLE, Int.reduceLT, Int.reduceMul, Int.reduceEq, Int.reducePow, Int.reduceAdd, Int.reduceSub, Int.reduceNeg, reduceCtorEq]; exact rfl) ?_
      refine awl_eq (ih (N / 128, pre ++ [N % 128 + 128]) ⟨by omega, by simpa using hp, by simp; omega⟩ (by simp; omega)) ?_
      clear ih
      have e1 : bits .or .u8 (IntKind.u8.wrap ↑N) 128 = ((N % 128 + 128 : Nat) : Int) := by rw [IntKind.wrap_u8 (N : Int)]; exact or_byte N
      have e2 : ((N : Int)).fdiv 128 = ((N / 128 : Nat) : Int) := by rw [Int.fdiv_eq_ediv_of_nonneg _ (by decide)]; rfl
      simp only [e1, e2, List.map_append, List.map_cons, List.map_nil, List.append_assoc, List.length_append, List.length_cons, List.length_nil, byteN, Nat.zero_add, Nat.add_assoc]
    · have hlt : N < 128 := by simp at hc; omega
      rw [nb_small hlt] at hp hlen
      clear ih
      refine aw_exit (then_e (then_e (block_e (then_n (aw_seq ?_)))))
      refine aw_regionL tk0 [0, 5] (fun K hK => ?_)
      simp only [go_sem, ↓reduceIte, Nat.reduceEqDiff, Nat.reduceLT, Nat.reduceLeDiff, Nat.reduceAdd, Nat.reduceSub, Nat.reduceMul, Nat.reduceBEq, Nat.reduceBNe, Nat.reducePow, Int.reduceToNat, Int.reduceLE, Int.reduceLT, Int.reduceMul, Int.reduceEq, Int.reducePow, Int.reduceAdd, Int.reduceSub, Int.reduceNeg, reduceCtorEq]
      simp only [List.length_cons, List.length_nil] at hlen
      refine ⟨⟨by omega, by omega⟩, hK _ (then_n (aw_ret ?_))⟩
      clear hK K
      simp only [Qret, low_byte hlt, ← hp]
      simp only [go_sem, ↓reduceIte, Nat.reduceEqDiff, Nat.reduceLT, Nat.reduceLeDiff, Nat.reduceAdd, Nat.reduceSub, Nat.reduceMul, Nat.reduceBEq, Nat.reduceBNe, Nat.reducePow, Int.reduceToNat, Int.reduceLE, Int.reduceLT, Int.reduceMul, Int.reduceEq, Int.reducePow, Int.reduceAdd, Int.reduceSub, Int.reduceNeg, reduceCtorEq, Try.results15]
      exact ⟨by simp [byteN, Nat.add_assoc], by simp [Nat.add_assoc]⟩

theorem number_nil (z : Int) (hz1 : -9223372036854775808 ≤ z) (hz2 : z ≤ 9223372036854775807) :
    AFn Try.prog 15 [.sl [] 0 .full, .c (.int .i64 z)] [] (.sl ((num z).map byteN) (num z).length (.tok 20000)) [.bt (num z).length 5] := by
  refine afn_of [10020] Try.func15 rfl Try.ntmps15 (Nat.le_of_ble_eq_true rfl) (Nat.le_of_ble_eq_true rfl) fun w0 G0 B0 Pr hB0 => ?_
  refine aw_seq ?_
  refine aw_regionL tk0 [0, 1] (fun K hK => ?_)
  simp only [go_sem, ↓reduceIte, Nat.reduceEqDiff, Nat.reduceLT, Nat.reduceLeDiff, Nat.reduceAdd, Nat.reduceSub, Nat.reduceMul, Nat.reduceBEq, Nat.reduceBNe, Nat.reducePow, Int.reduceToNat, Int.reduceLE, Int.reduceLT, Int.reduceMul, Int.reduceEq, Int.reducePow, Int.reduceAdd, Int.reduceSub, Int.reduceNeg, reduceCtorEq]
  refine hK _ (then_n (aw_seq ?_))
  clear hK K
  refine aw_regionL tk0 [0, 1] (fun K hK => ?_)
  simp only [go_sem, ↓reduceIte, Nat.reduceEqDiff, Nat.reduceLT, Nat.reduceLeDiff, Nat.reduceAdd, Nat.reduceSub, Nat.reduceMul, Nat.reduceBEq, Nat.reduceBNe, Nat.reducePow, Int.reduceToNat, Int.reduceLE, Int.reduceLT, Int.reduceMul, Int.reduceEq, Int.reducePow, Int.reduceAdd, Int.reduceSub, Int.reduceNeg, reduceCtorEq]
  refine hK _ (then_n (aw_seq (aw_block (aw_loop ?_))))
  clear hK K
  refine awl_le (ale_tok (b := 10020) (t := 0) 5 (by decide) (by decide) rfl rfl) ?_
  refine awl_ind (α := Nat × List Nat) (fun p => [(0, .sl (p.2.map byteN) p.2.length (.tok 10020)), (5, .c (.int .u64 (p.1 : Int))), (10020, .bt p.2.length 5)])
    (fun p => p.1 < 18446744073709551616 ∧ p.2 ++ nb p.1 = num z ∧ p.2.length + (nb p.1).length ≤ 10) (fun p => p.1) (zig z, []) [0, 5] ?_ ?_ ?_
  · simp only [go_sem, ↓reduceIte, Nat.reduceEqDiff, Nat.reduceLT, Nat.reduceLeDiff, Nat.reduceAdd, Nat.reduceSub, Nat.reduceMul, Nat.reduceBEq, Nat.reduceBNe, Nat.reducePow, Int.reduceToNat, Int.reduceLE, Int.reduceLT, Int.reduceMul, Int.reduceEq, Int.reducePow, Int.reduceAdd, Int.reduceSub, Int.reduceNeg, reduceCtorEq]
    have e := zig_bits hz1 hz2
    rw [← Int.fdiv_eq_ediv_of_nonneg z (by decide)] at e
    rw [e]
  · exact ⟨zig_lt ⟨hz1, hz2⟩, by simp [num], by simpa using nb_len10 (zig_lt ⟨hz1, hz2⟩)⟩
  · rintro ⟨N, pre⟩ ⟨hN, hp, hlen⟩ ih
    refine aw_seq (aw_seq ?_)
    simp only at ih hN hp hlen ⊢
    refine aw_regionL tk0 [0, 5] (fun K hK => ?_)
    simp only [go_sem, ↓reduceIte, Nat.reduceEqDiff, Nat.reduceLT, Nat.reduceLeDiff, Nat.reduceAdd, Nat.reduceSub, Nat.reduceMul, Nat.reduceBEq, Nat.reduceBNe, Nat.reducePow, Int.reduceToNat, Int.reduceLE, Int.reduceLT, Int.reduceMul, Int.reduceEq, Int.reducePow, Int.reduceAdd, Int.reduceSub, Int.reduceNeg, reduceCtorEq]
    refine hK _ (then_n ?_)
    clear hK K
    refine aw_cond (by decide) rfl (fun hc => ?_) (fun hc => ?_)
    · have hlt : ¬ N < 128 := by simp at hc; omega
      rw [nb_big hlt] at hp hlen
      simp only [List.length_cons] at hlen
      refine aw_skip (then_n (aw_block (aw_seq ?_)))
      refine aw_regionL tk0 [0, 5] (fun K hK => ?_)
      simp only [go_sem, ↓reduceIte, Nat.reduceEqDiff, Nat.reduceLT, Nat.reduceLeDiff, Nat.reduceAdd, Nat.reduceSub, Nat.reduceMul, Nat.reduceBEq, Nat.reduceBNe, Nat.reducePow, Int.reduceToNat, Int.reduceLE, Int.reduceLT, Int.reduceMul, Int.reduceEq, Int.reducePow, Int.reduceAdd, Int.reduceSub, Int.reduceNeg, reduceCtorEq]
      refine ⟨⟨by omega, by omega⟩, hK _ (then_n ?_)⟩
      clear hK K
      refine aw_regionL tk0 [0, 5] (fun K hK => ?_)
      simp only [go_sem, ↓reduceIte, Nat.reduceEqDiff, Nat.reduceLT, Nat.reduceLeDiff, Nat.reduceAdd, Nat.reduceSub, Nat.reduceMul, Nat.reduceBEq, Nat.reduceBNe, Nat.reducePow, Int.reduceToNat, Int.reduceLE, Int.reduceLT, Int.reduceMul, Int.reduceEq, Int.reducePow, Int.reduceAdd, Int.reduceSub, Int.reduceNeg, reduceCtorEq]
      refine hK _ (block_n (then_n ?_))
      clear hK K
      refine awl_keep [0, 5] (by simp only [go_sem, ↓reduceIte, Nat.reduceEqDiff, Nat.reduceLT, Nat.reduceLeDiff, Nat.reduceAdd, Nat.reduceSub, Nat.reduceMul, Nat.reduceBEq, Nat.reduceBNe, Nat.reducePow, Int.reduceToNat, Int.reduceLE, Int.reduceLT, Int.reduceMul, Int.reduceEq, Int.reducePow, Int.reduceAdd, Int.reduceSub, Int.reduceNeg, reduceCtorEq]; exact rfl) ?_
      refine awl_eq (ih (N / 128, pre ++ [N % 128 + 128]) ⟨by omega, by simpa using hp, by simp; omega⟩ (by simp; omega)) ?_
      clear ih
      have e1 : bits .or .u8 (IntKind.u8.wrap ↑N) 128 = ((N % 128 + 128 : Nat) : Int) := by rw [IntKind.wrap_u8 (N : Int)]; exact or_byte N
      have e2 : ((N : Int)).fdiv 128 = ((N / 128 : Nat) : Int) := by rw [Int.fdiv_eq_ediv_of_nonneg _ (by decide)]; rfl
      simp only [e1, e2, List.map_append, List.map_cons, List.map_nil, List.append_assoc, List.length_append, List.length_cons, List.length_nil, byteN, Nat.zero_add, Nat.add_assoc]
    · have hlt : N < 128 := by simp at hc; omega
      rw [nb_small hlt] at hp hlen
      clear ih
      refine aw_exit (then_e (then_e (block_e (then_n (aw_seq ?_)))))
      refine aw_regionL tk0 [0, 5] (fun K hK => ?_)
      simp only [go_sem, ↓reduceIte, Nat.reduceEqDiff, Nat.reduceLT, Nat.reduceLeDiff, Nat.reduceAdd, Nat.reduceSub, Nat.reduceMul, Nat.reduceBEq, Nat.reduceBNe, Nat.reducePow, Int.reduceToNat, Int.reduceLE, Int.reduceLT, Int.reduceMul, Int.reduceEq, Int.reducePow, Int.reduceAdd, Int.reduceSub, Int.reduceNeg, reduceCtorEq]
      simp only [List.length_cons, List.length_nil] at hlen
      refine ⟨⟨by omega, by omega⟩, hK _ (then_n (aw_ret ?_))⟩
      clear hK K
      simp only [Qret, low_byte hlt, ← hp]
      simp only [go_sem, ↓reduceIte, Nat.reduceEqDiff, Nat.reduceLT, Nat.reduceLeDiff, Nat.reduceAdd, Nat.reduceSub, Nat.reduceMul, Nat.reduceBEq, Nat.reduceBNe, Nat.reducePow, Int.reduceToNat, Int.reduceLE, Int.reduceLT, Int.reduceMul, Int.reduceEq, Int.reducePow, Int.reduceAdd, Int.reduceSub, Int.reduceNeg, reduceCtorEq, Try.results15]
      exact ⟨by simp [byteN, Nat.add_assoc], by simp [Nat.add_assoc]⟩
end Go.Proofs.Ytjgfhblciapkfaa
