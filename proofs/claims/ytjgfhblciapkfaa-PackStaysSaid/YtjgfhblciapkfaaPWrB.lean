/- pack.reply and pack.Write in K. -/
import Derived.Test.YtjgfhblciapkfaaPWr
namespace Go.Proofs.Ytjgfhblciapkfaa
set_option linter.unusedSimpArgs false
set_option linter.unusedVariables false
open Go.RowKit
theorem number_e {cs : List AV} {n : Nat} (xs : List Nat) (z : Int) (h1 : cs = xs.map byteN) (h2 : n = xs.length) (hz1 : -9223372036854775808 ≤ z) (hz2 : z ≤ 9223372036854775807) (hl : xs.length + 10 ≤ 140737488355328) :
    AFn Try.prog 15 [.sl cs n (.tok 20000), .c (.int .i64 z)] [.bt n 5] (.sl ((xs ++ num z).map byteN) (xs ++ num z).length (.tok 20000)) [.bt (xs ++ num z).length 5] := by
  subst h1; subst h2; exact number_k xs z hz1 hz2 hl
def lv_reply : Nat → List Nat
  | 0 => [0, 1]
  | 1 => [0, 3]
  | 2 => [0]
  | 3 => [0, 3]
  | 4 => [0, 3]
  | 5 => [0, 3, 25, 26, 27]
  | 6 => [0, 3, 25, 26, 27]
  | 7 => [0, 3, 6, 25, 26, 27]
  | 8 => [0, 3, 25, 26, 27]
  | 9 => [0, 3]
  | 10 => [0, 3]
  | 11 => [0, 47, 48, 49]
  | 12 => [0, 47, 48, 49]
  | 13 => [0, 8, 47, 48, 49]
  | 14 => [0, 47, 48, 49]
  | 15 => [0]
  | _ => []
set_option maxRecDepth 100000 in
set_option maxHeartbeats 8000000 in
theorem reply_k (xs : List Nat) (r : ReplyD) (hc : OkReply r) (hl : xs.length + (replyB r).length + 10 ≤ 140737488355328) :
    AFn Try.prog 16 [bytesA xs (.tok 20000), .agg (replyA r)] [.bt xs.length 5] (bytesA (xs ++ replyB r) (.tok 20000)) [.bt (xs ++ replyB r).length 5] := by
  obtain ⟨Y, M, R⟩ := r
  obtain ⟨⟨hM, hM2⟩, hR, hR2⟩ := hc
  simp only at hM hM2 hR hR2
  unfold OkLen at hM hR
  refine afn_of [] Try.func16 rfl Try.ntmps16 (Nat.le_of_ble_eq_true rfl) (Nat.le_of_ble_eq_true rfl) fun w0 G0 B0 Pr hB0 => ?_
  simp only [start, argMap, List.cons_append, List.nil_append, bytesA, replyA]
  cases Y
  · have hr : replyB ⟨false, M, R⟩ = [0] := rfl
    rw [hr] at hl ⊢
    simp only [List.length_cons, List.length_nil] at hl
    repeat' (first
      | (with_reducible refine hY _ ?_; clear hY Y)
      | ((with_reducible first | refine run_n rfl (runN fun K' hK' => todo ?_) | refine hK' _ (eqTo2 fun Y hY => todo ?_) | refine run_g rfl (eqTo2 fun Y hY => todo ?_) | refine eqTo2 fun Y hY => todo ?_ | refine runN fun K' hK' => todo ?_ | refine aw_regionB tk0 lv_reply (eqTo2 fun Y hY => todo ?_) | refine todo ?_ | refine qretT_r ?_ | refine draw_n rfl (drawN fun K' hK' => todo ?_) | refine hK' _ _ (eqTo2 fun Y hY => todo ?_) | refine draw_g rfl (eqTo2 fun Y hY => todo ?_) | refine drawN fun K' hK' => todo ?_ | refine qretT_n ?_); (try clear hK' K'); (try dsimp only [aop]); try simp only [go_sem, ↓reduceIte, Nat.reduceEqDiff, Nat.reduceLT, Nat.reduceLeDiff, Nat.reduceAdd, Nat.reduceSub, Nat.reduceMul, Nat.reduceBEq, Nat.reduceBNe, Nat.reducePow, Int.reduceToNat, Int.reduceLE, Int.reduceLT, Int.reduceMul, Int.reduceEq, Int.reducePow, Int.reduceAdd, Int.reduceSub, Int.reduceNeg, reduceCtorEq, lv_reply, Try.results16])
      | (with_reducible first | refine run_nil ?_ | refine guardG_n rfl ?_ | refine guardG_y ?_ | refine guardG_u ?_ | refine andD ?_ ?_ | refine then_n ?_ | refine aw_seq ?_ | refine regN fun K hK => ?_ | refine condV_t ?_ | refine condV_f ?_ | refine then_e ?_ | refine then_r ?_ | refine block_n ?_ | refine block_r ?_ | refine block_e ?_ | refine aw_block ?_ | refine aw_skip ?_ | refine aw_ret ?_ | refine aw_exit ?_ | refine aw_loop ?_ | refine aw_condc_t ?_ | refine aw_condc_f ?_ | refine draw_nil ?_ | refine regD fun K hK => ?_)
      | (with_reducible refine hK _ ?_; clear hK K)
      | (with_reducible refine hK _ _ ?_ ?_; (· kernel_rfl); clear hK K)
      | ((with_reducible first | refine gO_some ?_ ?_ | refine aw_condE ?_ ?_ | refine block_o ?_ ?_); (· decide))
      | (with_reducible refine aw_drawB tk0 lv_reply ?_ ?_; (· kernel_rfl))
      | ((with_reducible first | refine guardG_b (fun hc => ?_) (fun hc => ?_) | refine condV_b (fun hc => ?_) (fun hc => ?_)) <;> (try simp only [decide_eq_true_eq, decide_eq_false_iff_not, Bool.not_true, Bool.not_false, Bool.not_eq_true', Bool.not_eq_false'] at hc) <;> (try (exfalso; omega)))
      | (with_reducible refine and_i ?_ ?_; (· first | omega | assumption | (refine ⟨?_, ?_⟩ <;> (first | omega | assumption | (simp only [List.length_append, List.length_map, List.length_cons, List.length_nil] <;> omega))) | (refine ⟨?_, ?_, ?_⟩ <;> (first | omega | assumption | (simp only [List.length_append, List.length_map, List.length_cons, List.length_nil] <;> omega))) | (simp only [List.length_append, List.length_map, List.length_cons, List.length_nil] <;> omega)))
      | (with_reducible refine ex_seal ?_)
      | fail)
    simp [byteN]
  · have hr : replyB ⟨true, M, R⟩ = 1 :: (several lemmaB M ++ several clauseB R) := rfl
    rw [hr] at hl ⊢
    simp only [several, List.length_append, List.length_cons] at hl
    have hln : (xs ++ [1]).length = xs.length + 1 := by simp
    repeat' (first
      | (with_reducible refine hY _ ?_; clear hY Y)
      | ((with_reducible first | refine run_n rfl (runN fun K' hK' => todo ?_) | refine hK' _ (eqTo2 fun Y hY => todo ?_) | refine run_g rfl (eqTo2 fun Y hY => todo ?_) | refine eqTo2 fun Y hY => todo ?_ | refine runN fun K' hK' => todo ?_ | refine aw_regionB tk0 lv_reply (eqTo2 fun Y hY => todo ?_) | refine todo ?_ | refine qretT_r ?_ | refine draw_n rfl (drawN fun K' hK' => todo ?_) | refine hK' _ _ (eqTo2 fun Y hY => todo ?_) | refine draw_g rfl (eqTo2 fun Y hY => todo ?_) | refine drawN fun K' hK' => todo ?_ | refine qretT_n ?_); (try clear hK' K'); (try dsimp only [aop]); try simp only [go_sem, ↓reduceIte, Nat.reduceEqDiff, Nat.reduceLT, Nat.reduceLeDiff, Nat.reduceAdd, Nat.reduceSub, Nat.reduceMul, Nat.reduceBEq, Nat.reduceBNe, Nat.reducePow, Int.reduceToNat, Int.reduceLE, Int.reduceLT, Int.reduceMul, Int.reduceEq, Int.reducePow, Int.reduceAdd, Int.reduceSub, Int.reduceNeg, reduceCtorEq, lv_reply, Try.results16])
      | (with_reducible first | refine run_nil ?_ | refine guardG_n rfl ?_ | refine guardG_y ?_ | refine guardG_u ?_ | refine andD ?_ ?_ | refine then_n ?_ | refine aw_seq ?_ | refine regN fun K hK => ?_ | refine condV_t ?_ | refine condV_f ?_ | refine then_e ?_ | refine then_r ?_ | refine block_n ?_ | refine block_r ?_ | refine block_e ?_ | refine aw_block ?_ | refine aw_skip ?_ | refine aw_ret ?_ | refine aw_exit ?_ | refine aw_loop ?_ | refine aw_condc_t ?_ | refine aw_condc_f ?_ | refine draw_nil ?_ | refine regD fun K hK => ?_)
      | (with_reducible refine hK _ ?_; clear hK K)
      | (with_reducible refine hK _ _ ?_ ?_; (· kernel_rfl); clear hK K)
      | ((with_reducible first | refine gO_some ?_ ?_ | refine aw_condE ?_ ?_ | refine block_o ?_ ?_); (· decide))
      | (with_reducible refine aw_drawB tk0 lv_reply ?_ ?_; (· kernel_rfl))
      | ((with_reducible first | refine guardG_b (fun hc => ?_) (fun hc => ?_) | refine condV_b (fun hc => ?_) (fun hc => ?_)) <;> (try simp only [decide_eq_true_eq, decide_eq_false_iff_not, Bool.not_true, Bool.not_false, Bool.not_eq_true', Bool.not_eq_false'] at hc) <;> (try (exfalso; omega)))
      | (with_reducible refine and_i ?_ ?_; (· first | omega | assumption | (refine ⟨?_, ?_⟩ <;> (first | omega | assumption | (simp only [List.length_append, List.length_map, List.length_cons, List.length_nil] <;> omega))) | (refine ⟨?_, ?_, ?_⟩ <;> (first | omega | assumption | (simp only [List.length_append, List.length_map, List.length_cons, List.length_nil] <;> omega))) | (simp only [List.length_append, List.length_map, List.length_cons, List.length_nil] <;> omega)))
      | (with_reducible refine ex_callT (number_e (xs ++ [1]) _ ?_ ?_ ?_ ?_ ?_) ?_; (· simp [byteN]); (· simp); (· omega); (· omega); (· omega))
      | (with_reducible refine ex_seal ?_)
      | fail)
    have hml := fm_len (f := lemmaA) (k := 2) (fun _ => rfl) M
    refine awl_ind (α := Nat) (fun k => [(0, bytesA (xs ++ [1] ++ num M.length ++ (M.take k).flatMap lemmaB) (.tok 20000)), (3, .loc 10003 0), (25, .sl (M.flatMap lemmaA) M.length .none), (26, intA M.length), (27, intA k),
        (10003, .bc [.c (.bool true), .sl (M.flatMap lemmaA) M.length .none, .sl (R.map intsA) R.length .none] 43), (20000, .bt (xs ++ [1] ++ num M.length ++ (M.take k).flatMap lemmaB).length 5)])
      (fun k => k ≤ M.length) (fun k => M.length - k) 0 [0, 3, 25, 26, 27] ?_ (Nat.zero_le _) ?_
    · simp only [go_sem, ↓reduceIte, Nat.reduceEqDiff, Nat.reduceLT, Nat.reduceLeDiff, Nat.reduceAdd, Nat.reduceSub, Nat.reduceMul, Nat.reduceBEq, Nat.reduceBNe, Nat.reducePow, Int.reduceToNat, Int.reduceLE, Int.reduceLT, Int.reduceMul, Int.reduceEq, Int.reducePow, Int.reduceAdd, Int.reduceSub, Int.reduceNeg, reduceCtorEq]; simp [intA]
    intro k hk ih
    simp only [bytesA, intA]
    by_cases hlt : k < M.length
    · have hle := fm_le (f := lemmaB) hlt
      have hst := take_fm (f := lemmaB) hlt
      have hat := fm_at (f := lemmaA) (k := 2) (fun _ => rfl) hlt
      obtain ⟨ho1, ho2⟩ := hM2 M[k] (List.getElem_mem hlt)
      generalize M[k] = m at *
      simp only [lemmaB, List.length_append] at hle
      repeat' (first
        | (with_reducible refine hY _ ?_; clear hY Y)
        | ((with_reducible first | refine run_n rfl (runN fun K' hK' => todo ?_) | refine hK' _ (eqTo2 fun Y hY => todo ?_) | refine run_g rfl (eqTo2 fun Y hY => todo ?_) | refine eqTo2 fun Y hY => todo ?_ | refine runN fun K' hK' => todo ?_ | refine aw_regionB tk0 lv_reply (eqTo2 fun Y hY => todo ?_) | refine todo ?_ | refine qretT_r ?_ | refine draw_n rfl (drawN fun K' hK' => todo ?_) | refine hK' _ _ (eqTo2 fun Y hY => todo ?_) | refine draw_g rfl (eqTo2 fun Y hY => todo ?_) | refine drawN fun K' hK' => todo ?_ | refine qretT_n ?_); (try clear hK' K'); (try dsimp only [aop]); try simp only [go_sem, ↓reduceIte, Nat.reduceEqDiff, Nat.reduceLT, Nat.reduceLeDiff, Nat.reduceAdd, Nat.reduceSub, Nat.reduceMul, Nat.reduceBEq, Nat.reduceBNe, Nat.reducePow, Int.reduceToNat, Int.reduceLE, Int.reduceLT, Int.reduceMul, Int.reduceEq, Int.reducePow, Int.reduceAdd, Int.reduceSub, Int.reduceNeg, reduceCtorEq, lv_reply, Try.results16, hat, hml])
        | (with_reducible first | refine run_nil ?_ | refine guardG_n rfl ?_ | refine guardG_y ?_ | refine guardG_u ?_ | refine andD ?_ ?_ | refine then_n ?_ | refine aw_seq ?_ | refine regN fun K hK => ?_ | refine condV_t ?_ | refine condV_f ?_ | refine then_e ?_ | refine then_r ?_ | refine block_n ?_ | refine block_r ?_ | refine block_e ?_ | refine aw_block ?_ | refine aw_skip ?_ | refine aw_ret ?_ | refine aw_exit ?_ | refine aw_loop ?_ | refine aw_condc_t ?_ | refine aw_condc_f ?_ | refine draw_nil ?_ | refine regD fun K hK => ?_)
        | (with_reducible refine hK _ ?_; clear hK K)
        | (with_reducible refine hK _ _ ?_ ?_; (· kernel_rfl); clear hK K)
        | ((with_reducible first | refine gO_some ?_ ?_ | refine aw_condE ?_ ?_ | refine block_o ?_ ?_); (· decide))
        | (with_reducible refine aw_drawB tk0 lv_reply ?_ ?_; (· kernel_rfl))
        | ((with_reducible first | refine guardG_b (fun hc => ?_) (fun hc => ?_) | refine condV_b (fun hc => ?_) (fun hc => ?_)) <;> (try simp only [decide_eq_true_eq, decide_eq_false_iff_not, Bool.not_true, Bool.not_false, Bool.not_eq_true', Bool.not_eq_false'] at hc) <;> (try (exfalso; omega)))
        | (with_reducible refine and_i ?_ ?_; (· first | omega | assumption | (refine ⟨?_, ?_⟩ <;> (first | omega | assumption | (simp only [List.length_append, List.length_map, List.length_cons, List.length_nil] <;> omega))) | (refine ⟨?_, ?_, ?_⟩ <;> (first | omega | assumption | (simp only [List.length_append, List.length_map, List.length_cons, List.length_nil] <;> omega))) | (simp only [List.length_append, List.length_map, List.length_cons, List.length_nil] <;> omega)))
        | (with_reducible refine ex_callT (clause_k _ m.L ho1 ?_) ?_; (· (try simp only [List.length_append, List.length_map, List.length_cons, List.length_nil, List.take_length]); omega))
        | (with_reducible refine ex_callT (steps_k _ m.S ho2 ?_) ?_; (· (try simp only [List.length_append, List.length_map, List.length_cons, List.length_nil, List.take_length]); omega))
        | (with_reducible refine ex_seal ?_)
        | fail)
      refine awl_keep [0, 3, 25, 26, 27] (by simp only [go_sem, ↓reduceIte, Nat.reduceEqDiff, Nat.reduceLT, Nat.reduceLeDiff, Nat.reduceAdd, Nat.reduceSub, Nat.reduceMul, Nat.reduceBEq, Nat.reduceBNe, Nat.reducePow, Int.reduceToNat, Int.reduceLE, Int.reduceLT, Int.reduceMul, Int.reduceEq, Int.reducePow, Int.reduceAdd, Int.reduceSub, Int.reduceNeg, reduceCtorEq]; exact rfl) ?_
      refine awl_eq (ih (k + 1) (by omega) (by omega)) ?_
      simp (disch := omega) [wrap_i64, hst, intA, lemmaB, List.append_assoc]
    · obtain rfl : k = M.length := by omega
      clear ih
      simp only [List.take_length]
      repeat' (first
        | (with_reducible refine hY _ ?_; clear hY Y)
        | ((with_reducible first | refine run_n rfl (runN fun K' hK' => todo ?_) | refine hK' _ (eqTo2 fun Y hY => todo ?_) | refine run_g rfl (eqTo2 fun Y hY => todo ?_) | refine eqTo2 fun Y hY => todo ?_ | refine runN fun K' hK' => todo ?_ | refine aw_regionB tk0 lv_reply (eqTo2 fun Y hY => todo ?_) | refine todo ?_ | refine qretT_r ?_ | refine draw_n rfl (drawN fun K' hK' => todo ?_) | refine hK' _ _ (eqTo2 fun Y hY => todo ?_) | refine draw_g rfl (eqTo2 fun Y hY => todo ?_) | refine drawN fun K' hK' => todo ?_ | refine qretT_n ?_); (try clear hK' K'); (try dsimp only [aop]); try simp only [go_sem, ↓reduceIte, Nat.reduceEqDiff, Nat.reduceLT, Nat.reduceLeDiff, Nat.reduceAdd, Nat.reduceSub, Nat.reduceMul, Nat.reduceBEq, Nat.reduceBNe, Nat.reducePow, Int.reduceToNat, Int.reduceLE, Int.reduceLT, Int.reduceMul, Int.reduceEq, Int.reducePow, Int.reduceAdd, Int.reduceSub, Int.reduceNeg, reduceCtorEq, lv_reply, Try.results16])
        | (with_reducible first | refine run_nil ?_ | refine guardG_n rfl ?_ | refine guardG_y ?_ | refine guardG_u ?_ | refine andD ?_ ?_ | refine then_n ?_ | refine aw_seq ?_ | refine regN fun K hK => ?_ | refine condV_t ?_ | refine condV_f ?_ | refine then_e ?_ | refine then_r ?_ | refine block_n ?_ | refine block_r ?_ | refine block_e ?_ | refine aw_block ?_ | refine aw_skip ?_ | refine aw_ret ?_ | refine aw_exit ?_ | refine aw_loop ?_ | refine aw_condc_t ?_ | refine aw_condc_f ?_ | refine draw_nil ?_ | refine regD fun K hK => ?_)
        | (with_reducible refine hK _ ?_; clear hK K)
        | (with_reducible refine hK _ _ ?_ ?_; (· kernel_rfl); clear hK K)
        | ((with_reducible first | refine gO_some ?_ ?_ | refine aw_condE ?_ ?_ | refine block_o ?_ ?_); (· decide))
        | (with_reducible refine aw_drawB tk0 lv_reply ?_ ?_; (· kernel_rfl))
        | ((with_reducible first | refine guardG_b (fun hc => ?_) (fun hc => ?_) | refine condV_b (fun hc => ?_) (fun hc => ?_)) <;> (try simp only [decide_eq_true_eq, decide_eq_false_iff_not, Bool.not_true, Bool.not_false, Bool.not_eq_true', Bool.not_eq_false'] at hc) <;> (try (exfalso; omega)))
        | (with_reducible refine and_i ?_ ?_; (· first | omega | assumption | (refine ⟨?_, ?_⟩ <;> (first | omega | assumption | (simp only [List.length_append, List.length_map, List.length_cons, List.length_nil] <;> omega))) | (refine ⟨?_, ?_, ?_⟩ <;> (first | omega | assumption | (simp only [List.length_append, List.length_map, List.length_cons, List.length_nil] <;> omega))) | (simp only [List.length_append, List.length_map, List.length_cons, List.length_nil] <;> omega)))
        | (with_reducible refine ex_callT (number_k _ _ ?_ ?_ ?_) ?_; (· omega); (· omega); (· (try simp only [List.length_append, List.length_map, List.length_cons, List.length_nil, List.take_length]); omega))
        | (with_reducible refine ex_seal ?_)
        | fail)
      refine awl_ind (α := Nat) (fun k => [(0, bytesA (xs ++ [1] ++ num M.length ++ M.flatMap lemmaB ++ num R.length ++ (R.take k).flatMap clauseB) (.tok 20000)), (47, .sl (R.map intsA) R.length .none), (48, intA R.length), (49, intA k),
          (20000, .bt (xs ++ [1] ++ num M.length ++ M.flatMap lemmaB ++ num R.length ++ (R.take k).flatMap clauseB).length 5)])
        (fun k => k ≤ R.length) (fun k => R.length - k) 0 [0, 47, 48, 49] ?_ (Nat.zero_le _) ?_
      · simp only [go_sem, ↓reduceIte, Nat.reduceEqDiff, Nat.reduceLT, Nat.reduceLeDiff, Nat.reduceAdd, Nat.reduceSub, Nat.reduceMul, Nat.reduceBEq, Nat.reduceBNe, Nat.reducePow, Int.reduceToNat, Int.reduceLE, Int.reduceLT, Int.reduceMul, Int.reduceEq, Int.reducePow, Int.reduceAdd, Int.reduceSub, Int.reduceNeg, reduceCtorEq]; simp [intA]
      intro k hk2 ih
      simp only [bytesA, intA]
      by_cases hlt : k < R.length
      · have hle := fm_le (f := clauseB) hlt
        have hst := take_fm (f := clauseB) hlt
        have ho := hR2 R[k] (List.getElem_mem hlt)
        have hat := map_at (f := intsA) hlt
        generalize R[k] = c at *
        repeat' (first
          | (with_reducible refine hY _ ?_; clear hY Y)
          | ((with_reducible first | refine run_n rfl (runN fun K' hK' => todo ?_) | refine hK' _ (eqTo2 fun Y hY => todo ?_) | refine run_g rfl (eqTo2 fun Y hY => todo ?_) | refine eqTo2 fun Y hY => todo ?_ | refine runN fun K' hK' => todo ?_ | refine aw_regionB tk0 lv_reply (eqTo2 fun Y hY => todo ?_) | refine todo ?_ | refine qretT_r ?_ | refine draw_n rfl (drawN fun K' hK' => todo ?_) | refine hK' _ _ (eqTo2 fun Y hY => todo ?_) | refine draw_g rfl (eqTo2 fun Y hY => todo ?_) | refine drawN fun K' hK' => todo ?_ | refine qretT_n ?_); (try clear hK' K'); (try dsimp only [aop]); try simp only [go_sem, ↓reduceIte, Nat.reduceEqDiff, Nat.reduceLT, Nat.reduceLeDiff, Nat.reduceAdd, Nat.reduceSub, Nat.reduceMul, Nat.reduceBEq, Nat.reduceBNe, Nat.reducePow, Int.reduceToNat, Int.reduceLE, Int.reduceLT, Int.reduceMul, Int.reduceEq, Int.reducePow, Int.reduceAdd, Int.reduceSub, Int.reduceNeg, reduceCtorEq, lv_reply, Try.results16, hat])
          | (with_reducible first | refine run_nil ?_ | refine guardG_n rfl ?_ | refine guardG_y ?_ | refine guardG_u ?_ | refine andD ?_ ?_ | refine then_n ?_ | refine aw_seq ?_ | refine regN fun K hK => ?_ | refine condV_t ?_ | refine condV_f ?_ | refine then_e ?_ | refine then_r ?_ | refine block_n ?_ | refine block_r ?_ | refine block_e ?_ | refine aw_block ?_ | refine aw_skip ?_ | refine aw_ret ?_ | refine aw_exit ?_ | refine aw_loop ?_ | refine aw_condc_t ?_ | refine aw_condc_f ?_ | refine draw_nil ?_ | refine regD fun K hK => ?_)
          | (with_reducible refine hK _ ?_; clear hK K)
          | (with_reducible refine hK _ _ ?_ ?_; (· kernel_rfl); clear hK K)
          | ((with_reducible first | refine gO_some ?_ ?_ | refine aw_condE ?_ ?_ | refine block_o ?_ ?_); (· decide))
          | (with_reducible refine aw_drawB tk0 lv_reply ?_ ?_; (· kernel_rfl))
          | ((with_reducible first | refine guardG_b (fun hc => ?_) (fun hc => ?_) | refine condV_b (fun hc => ?_) (fun hc => ?_)) <;> (try simp only [decide_eq_true_eq, decide_eq_false_iff_not, Bool.not_true, Bool.not_false, Bool.not_eq_true', Bool.not_eq_false'] at hc) <;> (try (exfalso; omega)))
          | (with_reducible refine and_i ?_ ?_; (· first | omega | assumption | (refine ⟨?_, ?_⟩ <;> (first | omega | assumption | (simp only [List.length_append, List.length_map, List.length_cons, List.length_nil] <;> omega))) | (refine ⟨?_, ?_, ?_⟩ <;> (first | omega | assumption | (simp only [List.length_append, List.length_map, List.length_cons, List.length_nil] <;> omega))) | (simp only [List.length_append, List.length_map, List.length_cons, List.length_nil] <;> omega)))
          | (with_reducible refine ex_callT (clause_k _ c ho ?_) ?_; (· (try simp only [List.length_append, List.length_map, List.length_cons, List.length_nil, List.take_length]); omega))
          | (with_reducible refine ex_seal ?_)
          | fail)
        refine awl_keep [0, 47, 48, 49] (by simp only [go_sem, ↓reduceIte, Nat.reduceEqDiff, Nat.reduceLT, Nat.reduceLeDiff, Nat.reduceAdd, Nat.reduceSub, Nat.reduceMul, Nat.reduceBEq, Nat.reduceBNe, Nat.reducePow, Int.reduceToNat, Int.reduceLE, Int.reduceLT, Int.reduceMul, Int.reduceEq, Int.reducePow, Int.reduceAdd, Int.reduceSub, Int.reduceNeg, reduceCtorEq]; exact rfl) ?_
        refine awl_eq (ih (k + 1) (by omega) (by omega)) ?_
        simp (disch := omega) [wrap_i64, hst, intA, List.append_assoc]
      · obtain rfl : k = R.length := by omega
        clear ih
        repeat' (first
          | (with_reducible refine hY _ ?_; clear hY Y)
          | ((with_reducible first | refine run_n rfl (runN fun K' hK' => todo ?_) | refine hK' _ (eqTo2 fun Y hY => todo ?_) | refine run_g rfl (eqTo2 fun Y hY => todo ?_) | refine eqTo2 fun Y hY => todo ?_ | refine runN fun K' hK' => todo ?_ | refine aw_regionB tk0 lv_reply (eqTo2 fun Y hY => todo ?_) | refine todo ?_ | refine qretT_r ?_ | refine draw_n rfl (drawN fun K' hK' => todo ?_) | refine hK' _ _ (eqTo2 fun Y hY => todo ?_) | refine draw_g rfl (eqTo2 fun Y hY => todo ?_) | refine drawN fun K' hK' => todo ?_ | refine qretT_n ?_); (try clear hK' K'); (try dsimp only [aop]); try simp only [go_sem, ↓reduceIte, Nat.reduceEqDiff, Nat.reduceLT, Nat.reduceLeDiff, Nat.reduceAdd, Nat.reduceSub, Nat.reduceMul, Nat.reduceBEq, Nat.reduceBNe, Nat.reducePow, Int.reduceToNat, Int.reduceLE, Int.reduceLT, Int.reduceMul, Int.reduceEq, Int.reducePow, Int.reduceAdd, Int.reduceSub, Int.reduceNeg, reduceCtorEq, lv_reply, Try.results16])
          | (with_reducible first | refine run_nil ?_ | refine guardG_n rfl ?_ | refine guardG_y ?_ | refine guardG_u ?_ | refine andD ?_ ?_ | refine then_n ?_ | refine aw_seq ?_ | refine regN fun K hK => ?_ | refine condV_t ?_ | refine condV_f ?_ | refine then_e ?_ | refine then_r ?_ | refine block_n ?_ | refine block_r ?_ | refine block_e ?_ | refine aw_block ?_ | refine aw_skip ?_ | refine aw_ret ?_ | refine aw_exit ?_ | refine aw_loop ?_ | refine aw_condc_t ?_ | refine aw_condc_f ?_ | refine draw_nil ?_ | refine regD fun K hK => ?_)
          | (with_reducible refine hK _ ?_; clear hK K)
          | (with_reducible refine hK _ _ ?_ ?_; (· kernel_rfl); clear hK K)
          | ((with_reducible first | refine gO_some ?_ ?_ | refine aw_condE ?_ ?_ | refine block_o ?_ ?_); (· decide))
          | (with_reducible refine aw_drawB tk0 lv_reply ?_ ?_; (· kernel_rfl))
          | ((with_reducible first | refine guardG_b (fun hc => ?_) (fun hc => ?_) | refine condV_b (fun hc => ?_) (fun hc => ?_)) <;> (try simp only [decide_eq_true_eq, decide_eq_false_iff_not, Bool.not_true, Bool.not_false, Bool.not_eq_true', Bool.not_eq_false'] at hc) <;> (try (exfalso; omega)))
          | (with_reducible refine and_i ?_ ?_; (· first | omega | assumption | (refine ⟨?_, ?_⟩ <;> (first | omega | assumption | (simp only [List.length_append, List.length_map, List.length_cons, List.length_nil] <;> omega))) | (refine ⟨?_, ?_, ?_⟩ <;> (first | omega | assumption | (simp only [List.length_append, List.length_map, List.length_cons, List.length_nil] <;> omega))) | (simp only [List.length_append, List.length_map, List.length_cons, List.length_nil] <;> omega)))
          | (with_reducible refine ex_seal ?_)
          | fail)
        simp [several, Nat.add_assoc]

def writeR (w : List RecordD) : AV := if (witnessB w).length ≤ 4194304 then .tup [.sl ((witnessB w).map byteN) (witnessB w).length .none, .c .nilIface] else .tup [.sl [] 0 .full, .ifc 47 (.c (.int .i64 2))]
theorem reply_e {cs : List AV} {n : Nat} (xs : List Nat) (r : ReplyD) (h1 : cs = xs.map byteN) (h2 : n = xs.length) (hc : OkReply r) (hl : xs.length + (replyB r).length + 10 ≤ 140737488355328) :
    AFn Try.prog 16 [.sl cs n (.tok 20000), .agg (replyA r)] [.bt n 5] (bytesA (xs ++ replyB r) (.tok 20000)) [.bt (xs ++ replyB r).length 5] := by
  subst h1; subst h2; exact reply_k xs r hc hl
def lv_write : Nat → List Nat
  | 0 => [0]
  | 1 => [1]
  | 2 => [1, 4]
  | 3 => [4, 14, 15, 16]
  | 4 => [4, 14, 15, 16]
  | 5 => [4, 6, 14, 15, 16]
  | 6 => [4, 6, 14, 15, 16]
  | 7 => [4, 6, 14, 15, 16]
  | 8 => [4, 14, 15, 16, 34, 35, 36]
  | 9 => [4, 14, 15, 16, 34, 35, 36]
  | 10 => [4, 8, 14, 15, 16, 34, 35, 36]
  | 11 => [4, 14, 15, 16, 34, 35, 36]
  | 12 => []
  | 13 => [4, 14, 15, 16, 34, 35, 36]
  | 14 => [4, 14, 15, 16]
  | 15 => [4]
  | 16 => []
  | 17 => [4]
  | _ => []
set_option maxRecDepth 100000 in
set_option maxHeartbeats 8000000 in
theorem write_k (w : List RecordD) (hw : OkLen w ∧ ∀ r ∈ w, OkRecord r) (hl : (witnessB w).length + 20 ≤ 140737488355328) :
    AFn Try.prog 8 [.agg [recordsA w]] [] (writeR w) [] := by
  obtain ⟨hw1, hw2⟩ := hw
  unfold OkLen at hw1
  have hl' := hl
  simp only [witnessB, several, List.length_append] at hl'
  refine afn_of [] Try.func8 rfl Try.ntmps8 (Nat.le_of_ble_eq_true rfl) (Nat.le_of_ble_eq_true rfl) fun w0 G0 B0 Pr hB0 => ?_
  simp only [start, argMap, List.cons_append, List.nil_append, recordsA]
  repeat' (first
    | (with_reducible refine hY _ ?_; clear hY Y)
    | ((with_reducible first | refine run_n rfl (runN fun K' hK' => todo ?_) | refine hK' _ (eqTo2 fun Y hY => todo ?_) | refine run_g rfl (eqTo2 fun Y hY => todo ?_) | refine eqTo2 fun Y hY => todo ?_ | refine runN fun K' hK' => todo ?_ | refine aw_regionB tk0 lv_write (eqTo2 fun Y hY => todo ?_) | refine todo ?_ | refine qretT_r ?_ | refine draw_n rfl (drawN fun K' hK' => todo ?_) | refine hK' _ _ (eqTo2 fun Y hY => todo ?_) | refine draw_g rfl (eqTo2 fun Y hY => todo ?_) | refine drawN fun K' hK' => todo ?_ | refine qretT_n ?_); (try clear hK' K'); (try dsimp only [aop]); try simp only [go_sem, ↓reduceIte, Nat.reduceEqDiff, Nat.reduceLT, Nat.reduceLeDiff, Nat.reduceAdd, Nat.reduceSub, Nat.reduceMul, Nat.reduceBEq, Nat.reduceBNe, Nat.reducePow, Int.reduceToNat, Int.reduceLE, Int.reduceLT, Int.reduceMul, Int.reduceEq, Int.reducePow, Int.reduceAdd, Int.reduceSub, Int.reduceNeg, reduceCtorEq, lv_write, Try.results8])
    | (with_reducible first | refine run_nil ?_ | refine guardG_n rfl ?_ | refine guardG_y ?_ | refine guardG_u ?_ | refine andD ?_ ?_ | refine then_n ?_ | refine aw_seq ?_ | refine regN fun K hK => ?_ | refine condV_t ?_ | refine condV_f ?_ | refine then_e ?_ | refine then_r ?_ | refine block_n ?_ | refine block_r ?_ | refine block_e ?_ | refine aw_block ?_ | refine aw_skip ?_ | refine aw_ret ?_ | refine aw_exit ?_ | refine aw_loop ?_ | refine aw_condc_t ?_ | refine aw_condc_f ?_ | refine draw_nil ?_ | refine regD fun K hK => ?_)
    | (with_reducible refine hK _ ?_; clear hK K)
    | (with_reducible refine hK _ _ ?_ ?_; (· kernel_rfl); clear hK K)
    | ((with_reducible first | refine gO_some ?_ ?_ | refine aw_condE ?_ ?_ | refine block_o ?_ ?_); (· decide))
    | (with_reducible refine aw_drawB tk0 lv_write ?_ ?_; (· kernel_rfl))
    | ((with_reducible first | refine guardG_b (fun hc => ?_) (fun hc => ?_) | refine condV_b (fun hc => ?_) (fun hc => ?_)) <;> (try simp only [decide_eq_true_eq, decide_eq_false_iff_not, Bool.not_true, Bool.not_false, Bool.not_eq_true', Bool.not_eq_false'] at hc) <;> (try (exfalso; omega)))
    | (with_reducible refine and_i ?_ ?_; (· first | omega | assumption | (refine ⟨?_, ?_⟩ <;> (first | omega | assumption | (simp only [List.length_append, List.length_map, List.length_cons, List.length_nil] <;> omega))) | (refine ⟨?_, ?_, ?_⟩ <;> (first | omega | assumption | (simp only [List.length_append, List.length_map, List.length_cons, List.length_nil] <;> omega))) | (simp only [List.length_append, List.length_map, List.length_cons, List.length_nil] <;> omega)))
    | (with_reducible refine ex_callT (number_nil _ ?_ ?_) ?_; (· omega); (· omega))
    | (with_reducible refine ex_seal ?_)
    | fail)
  have hfl := fm_len (f := recordA) (k := 2) (fun _ => rfl) w
  refine awl_ind (α := Nat) (fun k => [(4, bytesA (num w.length ++ (w.take k).flatMap recordB) (.tok 10012)), (14, .sl (w.flatMap recordA) w.length .none), (15, intA w.length), (16, intA k), (10012, .bt (num w.length ++ (w.take k).flatMap recordB).length 5)])
    (fun k => k ≤ w.length) (fun k => w.length - k) 0 [4, 14, 15, 16] ?_ (Nat.zero_le _) ?_
  · simp only [go_sem, ↓reduceIte, Nat.reduceEqDiff, Nat.reduceLT, Nat.reduceLeDiff, Nat.reduceAdd, Nat.reduceSub, Nat.reduceMul, Nat.reduceBEq, Nat.reduceBNe, Nat.reducePow, Int.reduceToNat, Int.reduceLE, Int.reduceLT, Int.reduceMul, Int.reduceEq, Int.reducePow, Int.reduceAdd, Int.reduceSub, Int.reduceNeg, reduceCtorEq]; simp [intA]
  intro k hk ih
  simp only [bytesA, intA]
  by_cases hlt : k < w.length
  · have hle := fm_le (f := recordB) hlt
    have hst := take_fm (f := recordB) hlt
    have hat := fm_at (f := recordA) (k := 2) (fun _ => rfl) hlt
    obtain ⟨ho1, ho2, ho3⟩ := hw2 w[k] (List.getElem_mem hlt)
    unfold OkLen at ho2
    generalize w[k] = r at *
    obtain ⟨N, A⟩ := r
    simp only at ho1 ho2 ho3
    have hN : N.data.toList.length = N.size := by simp
    have hNm : N.data.toList.map byteA = (N.data.toList.map (·.toNat)).map byteN := by rw [List.map_map]; rfl
    simp only [recordB, several, List.length_append, List.length_map, hN] at hle
    repeat' (first
      | (with_reducible refine hY _ ?_; clear hY Y)
      | ((with_reducible first | refine run_n rfl (runN fun K' hK' => todo ?_) | refine hK' _ (eqTo2 fun Y hY => todo ?_) | refine run_g rfl (eqTo2 fun Y hY => todo ?_) | refine eqTo2 fun Y hY => todo ?_ | refine runN fun K' hK' => todo ?_ | refine aw_regionB tk0 lv_write (eqTo2 fun Y hY => todo ?_) | refine todo ?_ | refine qretT_r ?_ | refine draw_n rfl (drawN fun K' hK' => todo ?_) | refine hK' _ _ (eqTo2 fun Y hY => todo ?_) | refine draw_g rfl (eqTo2 fun Y hY => todo ?_) | refine drawN fun K' hK' => todo ?_ | refine qretT_n ?_); (try clear hK' K'); (try dsimp only [aop]); try simp only [go_sem, ↓reduceIte, Nat.reduceEqDiff, Nat.reduceLT, Nat.reduceLeDiff, Nat.reduceAdd, Nat.reduceSub, Nat.reduceMul, Nat.reduceBEq, Nat.reduceBNe, Nat.reducePow, Int.reduceToNat, Int.reduceLE, Int.reduceLT, Int.reduceMul, Int.reduceEq, Int.reducePow, Int.reduceAdd, Int.reduceSub, Int.reduceNeg, reduceCtorEq, lv_write, Try.results8, hat, hfl, hN])
      | (with_reducible first | refine run_nil ?_ | refine guardG_n rfl ?_ | refine guardG_y ?_ | refine guardG_u ?_ | refine andD ?_ ?_ | refine then_n ?_ | refine aw_seq ?_ | refine regN fun K hK => ?_ | refine condV_t ?_ | refine condV_f ?_ | refine then_e ?_ | refine then_r ?_ | refine block_n ?_ | refine block_r ?_ | refine block_e ?_ | refine aw_block ?_ | refine aw_skip ?_ | refine aw_ret ?_ | refine aw_exit ?_ | refine aw_loop ?_ | refine aw_condc_t ?_ | refine aw_condc_f ?_ | refine draw_nil ?_ | refine regD fun K hK => ?_)
      | (with_reducible refine hK _ ?_; clear hK K)
      | (with_reducible refine hK _ _ ?_ ?_; (· kernel_rfl); clear hK K)
      | ((with_reducible first | refine gO_some ?_ ?_ | refine aw_condE ?_ ?_ | refine block_o ?_ ?_); (· decide))
      | (with_reducible refine aw_drawB tk0 lv_write ?_ ?_; (· kernel_rfl))
      | ((with_reducible first | refine guardG_b (fun hc => ?_) (fun hc => ?_) | refine condV_b (fun hc => ?_) (fun hc => ?_)) <;> (try simp only [decide_eq_true_eq, decide_eq_false_iff_not, Bool.not_true, Bool.not_false, Bool.not_eq_true', Bool.not_eq_false'] at hc) <;> (try (exfalso; omega)))
      | (with_reducible refine and_i ?_ ?_; (· first | omega | assumption | (refine ⟨?_, ?_⟩ <;> (first | omega | assumption | (simp only [List.length_append, List.length_map, List.length_cons, List.length_nil] <;> omega))) | (refine ⟨?_, ?_, ?_⟩ <;> (first | omega | assumption | (simp only [List.length_append, List.length_map, List.length_cons, List.length_nil] <;> omega))) | (simp only [List.length_append, List.length_map, List.length_cons, List.length_nil] <;> omega)))
      | (with_reducible refine ex_callT (number_k _ _ ?_ ?_ ?_) ?_; (· omega); (· omega); (· (try simp only [List.length_append, List.length_map, List.length_cons, List.length_nil, List.take_length]); omega))
      | (with_reducible refine ex_callT (number_e (num w.length ++ (w.take k).flatMap recordB ++ num N.size ++ N.data.toList.map (·.toNat)) _ ?_ ?_ ?_ ?_ ?_) ?_; (· simp [hNm]); (· simp only [List.length_append, List.length_map, hN, Nat.add_assoc]); (· omega); (· omega); (· simp only [List.length_append, List.length_map, hN]; omega))
      | (with_reducible refine ex_seal ?_)
      | fail)
    refine awl_ind (α := Nat) (fun j => [(4, bytesA (num w.length ++ (w.take k).flatMap recordB ++ num N.size ++ N.data.toList.map (·.toNat) ++ num A.length ++ (A.take j).flatMap replyB) (.tok 10012)), (14, .sl (w.flatMap recordA) w.length .none), (15, intA w.length), (16, intA k),
        (34, .sl (A.flatMap replyA) A.length .none), (35, intA A.length), (36, intA j), (10012, .bt (num w.length ++ (w.take k).flatMap recordB ++ num N.size ++ N.data.toList.map (·.toNat) ++ num A.length ++ (A.take j).flatMap replyB).length 5)])
      (fun j => j ≤ A.length) (fun j => A.length - j) 0 [4, 14, 15, 16, 34, 35, 36] ?_ (Nat.zero_le _) ?_
    · simp only [go_sem, ↓reduceIte, Nat.reduceEqDiff, Nat.reduceLT, Nat.reduceLeDiff, Nat.reduceAdd, Nat.reduceSub, Nat.reduceMul, Nat.reduceBEq, Nat.reduceBNe, Nat.reducePow, Int.reduceToNat, Int.reduceLE, Int.reduceLT, Int.reduceMul, Int.reduceEq, Int.reducePow, Int.reduceAdd, Int.reduceSub, Int.reduceNeg, reduceCtorEq, List.append_nil]; rfl
    have hafl := fm_len (f := replyA) (k := 3) (fun _ => rfl) A
    intro j hj ih2
    simp only [bytesA, intA]
    by_cases hlt2 : j < A.length
    · have hle2 := fm_le (f := replyB) hlt2
      have hst2 := take_fm (f := replyB) hlt2
      have hat2 := fm_at (f := replyA) (k := 3) (fun _ => rfl) hlt2
      have hor := ho3 A[j] (List.getElem_mem hlt2)
      generalize A[j] = x at *
      repeat' (first
        | (with_reducible refine hY _ ?_; clear hY Y)
        | ((with_reducible first | refine run_n rfl (runN fun K' hK' => todo ?_) | refine hK' _ (eqTo2 fun Y hY => todo ?_) | refine run_g rfl (eqTo2 fun Y hY => todo ?_) | refine eqTo2 fun Y hY => todo ?_ | refine runN fun K' hK' => todo ?_ | refine aw_regionB tk0 lv_write (eqTo2 fun Y hY => todo ?_) | refine todo ?_ | refine qretT_r ?_ | refine draw_n rfl (drawN fun K' hK' => todo ?_) | refine hK' _ _ (eqTo2 fun Y hY => todo ?_) | refine draw_g rfl (eqTo2 fun Y hY => todo ?_) | refine drawN fun K' hK' => todo ?_ | refine qretT_n ?_); (try clear hK' K'); (try dsimp only [aop]); try simp only [go_sem, ↓reduceIte, Nat.reduceEqDiff, Nat.reduceLT, Nat.reduceLeDiff, Nat.reduceAdd, Nat.reduceSub, Nat.reduceMul, Nat.reduceBEq, Nat.reduceBNe, Nat.reducePow, Int.reduceToNat, Int.reduceLE, Int.reduceLT, Int.reduceMul, Int.reduceEq, Int.reducePow, Int.reduceAdd, Int.reduceSub, Int.reduceNeg, reduceCtorEq, lv_write, Try.results8, hat2, hafl])
        | (with_reducible first | refine run_nil ?_ | refine guardG_n rfl ?_ | refine guardG_y ?_ | refine guardG_u ?_ | refine andD ?_ ?_ | refine then_n ?_ | refine aw_seq ?_ | refine regN fun K hK => ?_ | refine condV_t ?_ | refine condV_f ?_ | refine then_e ?_ | refine then_r ?_ | refine block_n ?_ | refine block_r ?_ | refine block_e ?_ | refine aw_block ?_ | refine aw_skip ?_ | refine aw_ret ?_ | refine aw_exit ?_ | refine aw_loop ?_ | refine aw_condc_t ?_ | refine aw_condc_f ?_ | refine draw_nil ?_ | refine regD fun K hK => ?_)
        | (with_reducible refine hK _ ?_; clear hK K)
        | (with_reducible refine hK _ _ ?_ ?_; (· kernel_rfl); clear hK K)
        | ((with_reducible first | refine gO_some ?_ ?_ | refine aw_condE ?_ ?_ | refine block_o ?_ ?_); (· decide))
        | (with_reducible refine aw_drawB tk0 lv_write ?_ ?_; (· kernel_rfl))
        | ((with_reducible first | refine guardG_b (fun hc => ?_) (fun hc => ?_) | refine condV_b (fun hc => ?_) (fun hc => ?_)) <;> (try simp only [decide_eq_true_eq, decide_eq_false_iff_not, Bool.not_true, Bool.not_false, Bool.not_eq_true', Bool.not_eq_false'] at hc) <;> (try (exfalso; omega)))
        | (with_reducible refine and_i ?_ ?_; (· first | omega | assumption | (refine ⟨?_, ?_⟩ <;> (first | omega | assumption | (simp only [List.length_append, List.length_map, List.length_cons, List.length_nil] <;> omega))) | (refine ⟨?_, ?_, ?_⟩ <;> (first | omega | assumption | (simp only [List.length_append, List.length_map, List.length_cons, List.length_nil] <;> omega))) | (simp only [List.length_append, List.length_map, List.length_cons, List.length_nil] <;> omega)))
        | (with_reducible refine ex_callT (reply_k _ x hor ?_) ?_; (· (try simp only [List.length_append, List.length_map, hN]); omega))
        | (with_reducible refine ex_seal ?_)
        | fail)
      · simp only [List.length_append, List.length_map, hN] at hc
        unfold writeR
        rw [if_neg (by simp only [witnessB, several, List.length_append]; omega)]
      · refine awl_keep [4, 14, 15, 16, 34, 35, 36] (by simp only [go_sem, ↓reduceIte, Nat.reduceEqDiff, Nat.reduceLT, Nat.reduceLeDiff, Nat.reduceAdd, Nat.reduceSub, Nat.reduceMul, Nat.reduceBEq, Nat.reduceBNe, Nat.reducePow, Int.reduceToNat, Int.reduceLE, Int.reduceLT, Int.reduceMul, Int.reduceEq, Int.reducePow, Int.reduceAdd, Int.reduceSub, Int.reduceNeg, reduceCtorEq]; exact rfl) ?_
        refine awl_eq (ih2 (j + 1) (by omega) (by omega)) ?_
        simp (disch := omega) [wrap_i64, hst2, intA, List.append_assoc]
    · obtain rfl : j = A.length := by omega
      clear ih2
      simp only [List.take_length]
      repeat' (first
        | (with_reducible refine hY _ ?_; clear hY Y)
        | ((with_reducible first | refine run_n rfl (runN fun K' hK' => todo ?_) | refine hK' _ (eqTo2 fun Y hY => todo ?_) | refine run_g rfl (eqTo2 fun Y hY => todo ?_) | refine eqTo2 fun Y hY => todo ?_ | refine runN fun K' hK' => todo ?_ | refine aw_regionB tk0 lv_write (eqTo2 fun Y hY => todo ?_) | refine todo ?_ | refine qretT_r ?_ | refine draw_n rfl (drawN fun K' hK' => todo ?_) | refine hK' _ _ (eqTo2 fun Y hY => todo ?_) | refine draw_g rfl (eqTo2 fun Y hY => todo ?_) | refine drawN fun K' hK' => todo ?_ | refine qretT_n ?_); (try clear hK' K'); (try dsimp only [aop]); try simp only [go_sem, ↓reduceIte, Nat.reduceEqDiff, Nat.reduceLT, Nat.reduceLeDiff, Nat.reduceAdd, Nat.reduceSub, Nat.reduceMul, Nat.reduceBEq, Nat.reduceBNe, Nat.reducePow, Int.reduceToNat, Int.reduceLE, Int.reduceLT, Int.reduceMul, Int.reduceEq, Int.reducePow, Int.reduceAdd, Int.reduceSub, Int.reduceNeg, reduceCtorEq, lv_write, Try.results8])
        | (with_reducible first | refine run_nil ?_ | refine guardG_n rfl ?_ | refine guardG_y ?_ | refine guardG_u ?_ | refine andD ?_ ?_ | refine then_n ?_ | refine aw_seq ?_ | refine regN fun K hK => ?_ | refine condV_t ?_ | refine condV_f ?_ | refine then_e ?_ | refine then_r ?_ | refine block_n ?_ | refine block_r ?_ | refine block_e ?_ | refine aw_block ?_ | refine aw_skip ?_ | refine aw_ret ?_ | refine aw_exit ?_ | refine aw_loop ?_ | refine aw_condc_t ?_ | refine aw_condc_f ?_ | refine draw_nil ?_ | refine regD fun K hK => ?_)
        | (with_reducible refine hK _ ?_; clear hK K)
        | (with_reducible refine hK _ _ ?_ ?_; (· kernel_rfl); clear hK K)
        | ((with_reducible first | refine gO_some ?_ ?_ | refine aw_condE ?_ ?_ | refine block_o ?_ ?_); (· decide))
        | (with_reducible refine aw_drawB tk0 lv_write ?_ ?_; (· kernel_rfl))
        | ((with_reducible first | refine guardG_b (fun hc => ?_) (fun hc => ?_) | refine condV_b (fun hc => ?_) (fun hc => ?_)) <;> (try simp only [decide_eq_true_eq, decide_eq_false_iff_not, Bool.not_true, Bool.not_false, Bool.not_eq_true', Bool.not_eq_false'] at hc) <;> (try (exfalso; omega)))
        | (with_reducible refine and_i ?_ ?_; (· first | omega | assumption | (refine ⟨?_, ?_⟩ <;> (first | omega | assumption | (simp only [List.length_append, List.length_map, List.length_cons, List.length_nil] <;> omega))) | (refine ⟨?_, ?_, ?_⟩ <;> (first | omega | assumption | (simp only [List.length_append, List.length_map, List.length_cons, List.length_nil] <;> omega))) | (simp only [List.length_append, List.length_map, List.length_cons, List.length_nil] <;> omega)))
        | (with_reducible refine ex_seal ?_)
        | fail)
      refine awl_keep [4, 14, 15, 16] (by simp only [go_sem, ↓reduceIte, Nat.reduceEqDiff, Nat.reduceLT, Nat.reduceLeDiff, Nat.reduceAdd, Nat.reduceSub, Nat.reduceMul, Nat.reduceBEq, Nat.reduceBNe, Nat.reducePow, Int.reduceToNat, Int.reduceLE, Int.reduceLT, Int.reduceMul, Int.reduceEq, Int.reducePow, Int.reduceAdd, Int.reduceSub, Int.reduceNeg, reduceCtorEq]; exact rfl) ?_
      refine awl_eq (ih (k + 1) (by omega) (by omega)) ?_
      simp (disch := omega) [wrap_i64, hst, intA, recordB, several, List.append_assoc]
  · obtain rfl : k = w.length := by omega
    clear ih
    simp only [List.take_length]
    repeat' (first
      | (with_reducible refine hY _ ?_; clear hY Y)
      | ((with_reducible first | refine run_n rfl (runN fun K' hK' => todo ?_) | refine hK' _ (eqTo2 fun Y hY => todo ?_) | refine run_g rfl (eqTo2 fun Y hY => todo ?_) | refine eqTo2 fun Y hY => todo ?_ | refine runN fun K' hK' => todo ?_ | refine aw_regionB tk0 lv_write (eqTo2 fun Y hY => todo ?_) | refine todo ?_ | refine qretT_r ?_ | refine draw_n rfl (drawN fun K' hK' => todo ?_) | refine hK' _ _ (eqTo2 fun Y hY => todo ?_) | refine draw_g rfl (eqTo2 fun Y hY => todo ?_) | refine drawN fun K' hK' => todo ?_ | refine qretT_n ?_); (try clear hK' K'); (try dsimp only [aop]); try simp only [go_sem, ↓reduceIte, Nat.reduceEqDiff, Nat.reduceLT, Nat.reduceLeDiff, Nat.reduceAdd, Nat.reduceSub, Nat.reduceMul, Nat.reduceBEq, Nat.reduceBNe, Nat.reducePow, Int.reduceToNat, Int.reduceLE, Int.reduceLT, Int.reduceMul, Int.reduceEq, Int.reducePow, Int.reduceAdd, Int.reduceSub, Int.reduceNeg, reduceCtorEq, lv_write, Try.results8])
      | (with_reducible first | refine run_nil ?_ | refine guardG_n rfl ?_ | refine guardG_y ?_ | refine guardG_u ?_ | refine andD ?_ ?_ | refine then_n ?_ | refine aw_seq ?_ | refine regN fun K hK => ?_ | refine condV_t ?_ | refine condV_f ?_ | refine then_e ?_ | refine then_r ?_ | refine block_n ?_ | refine block_r ?_ | refine block_e ?_ | refine aw_block ?_ | refine aw_skip ?_ | refine aw_ret ?_ | refine aw_exit ?_ | refine aw_loop ?_ | refine aw_condc_t ?_ | refine aw_condc_f ?_ | refine draw_nil ?_ | refine regD fun K hK => ?_)
      | (with_reducible refine hK _ ?_; clear hK K)
      | (with_reducible refine hK _ _ ?_ ?_; (· kernel_rfl); clear hK K)
      | ((with_reducible first | refine gO_some ?_ ?_ | refine aw_condE ?_ ?_ | refine block_o ?_ ?_); (· decide))
      | (with_reducible refine aw_drawB tk0 lv_write ?_ ?_; (· kernel_rfl))
      | ((with_reducible first | refine guardG_b (fun hc => ?_) (fun hc => ?_) | refine condV_b (fun hc => ?_) (fun hc => ?_)) <;> (try simp only [decide_eq_true_eq, decide_eq_false_iff_not, Bool.not_true, Bool.not_false, Bool.not_eq_true', Bool.not_eq_false'] at hc) <;> (try (exfalso; omega)))
      | (with_reducible refine and_i ?_ ?_; (· first | omega | assumption | (refine ⟨?_, ?_⟩ <;> (first | omega | assumption | (simp only [List.length_append, List.length_map, List.length_cons, List.length_nil] <;> omega))) | (refine ⟨?_, ?_, ?_⟩ <;> (first | omega | assumption | (simp only [List.length_append, List.length_map, List.length_cons, List.length_nil] <;> omega))) | (simp only [List.length_append, List.length_map, List.length_cons, List.length_nil] <;> omega)))
      | (with_reducible refine ex_seal ?_)
      | fail)
    · unfold writeR
      rw [if_neg (by simp only [List.length_append] at hc; simp only [witnessB, several, List.length_append]; omega)]
    · unfold writeR
      rw [if_pos (by simp only [List.length_append] at hc; simp only [witnessB, several, List.length_append]; omega)]
      rfl
end Go.Proofs.Ytjgfhblciapkfaa
