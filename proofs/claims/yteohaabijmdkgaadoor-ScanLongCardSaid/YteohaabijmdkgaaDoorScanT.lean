/- Tokens that are alike; the document's examples; words; in K. -/
import Derived.Test.YteohaabijmdkgaaDoorScan
import Derived.Test.YteohaabijmdkgaaDoorTold
namespace Go.Proofs.YteohaabijmdkgaaDoor
set_option linter.unusedSimpArgs false
set_option linter.unusedVariables false
open Go.RowKit
def lv_trammel_trammelref13_Same : Nat → List Nat
  | 0 => [0, 1, 2]
  | 1 => [0, 1, 2]
  | 2 => []
  | 3 => [0, 1, 2]
  | 4 => [0, 1, 2, 7]
  | 5 => [0, 1, 2, 7]
  | 6 => [0, 1, 2, 7]
  | 7 => []
  | 8 => []
  | _ => []
set_option maxRecDepth 100000 in
set_option maxHeartbeats 4000000 in
theorem same_k (l : List Tok) (o1 o2 : Own) (b : Bool) (hl : l.length ≤ 4611686018427387904) : AFn Tryd.prog 9 [.sl (l.flatMap tokA) l.length o1, .sl (l.flatMap tokA) l.length o2, .c (.bool b)] [] (.c (.bool true)) [] := by
  refine afn_of [] Tryd.func9 rfl Tryd.ntmps9 (Nat.le_of_ble_eq_true rfl) (Nat.le_of_ble_eq_true rfl) fun w0 G0 B0 Pr hB0 => ?_
  simp only [start, argMap, List.cons_append, List.nil_append]
  repeat' (first
    | (with_reducible refine hY _ ?_; clear hY Y)
    | ((with_reducible first | refine run_n rfl (runN fun K' hK' => todo ?_) | refine hK' _ (eqTo2 fun Y hY => todo ?_) | refine run_g rfl (eqTo2 fun Y hY => todo ?_) | refine eqTo2 fun Y hY => todo ?_ | refine runN fun K' hK' => todo ?_ | refine aw_regionB tk0 lv_trammel_trammelref13_Same (eqTo2 fun Y hY => todo ?_) | refine todo ?_ | refine qretT_r ?_ | refine draw_n rfl (drawN fun K' hK' => todo ?_) | refine hK' _ _ (eqTo2 fun Y hY => todo ?_) | refine draw_g rfl (eqTo2 fun Y hY => todo ?_) | refine drawN fun K' hK' => todo ?_ | refine qretT_n ?_); (try clear hK' K'); (try dsimp only [aop]); try simp only [go_sem, ↓reduceIte, Nat.reduceEqDiff, Nat.reduceLT, Nat.reduceLeDiff, Nat.reduceAdd, Nat.reduceSub, Nat.reduceMul, Nat.reduceBEq, Nat.reduceBNe, Nat.reducePow, Int.reduceToNat, Int.reduceLE, Int.reduceLT, Int.reduceMul, Int.reduceEq, Int.reducePow, Int.reduceAdd, Int.reduceSub, Int.reduceNeg, reduceCtorEq, lv_trammel_trammelref13_Same, Tryd.results9])
    | (with_reducible first | refine run_nil ?_ | refine guardG_n rfl ?_ | refine guardG_y ?_ | refine guardG_u ?_ | refine andD ?_ ?_ | refine then_n ?_ | refine aw_seq ?_ | refine regN fun K hK => ?_ | refine condV_t ?_ | refine condV_f ?_ | refine then_e ?_ | refine then_r ?_ | refine block_n ?_ | refine block_r ?_ | refine block_e ?_ | refine aw_block ?_ | refine aw_skip ?_ | refine aw_ret ?_ | refine aw_exit ?_ | refine aw_loop ?_ | refine aw_condc_t ?_ | refine aw_condc_f ?_ | refine draw_nil ?_ | refine regD fun K hK => ?_)
    | (with_reducible refine hK _ ?_; clear hK K)
    | (with_reducible refine hK _ _ ?_ ?_; (· kernel_rfl); clear hK K)
    | ((with_reducible first | refine gO_some ?_ ?_ | refine aw_condE ?_ ?_ | refine block_o ?_ ?_); (· decide))
    | (with_reducible refine aw_drawB tk0 lv_trammel_trammelref13_Same ?_ ?_; (· kernel_rfl))
    | ((with_reducible first | refine guardG_b (fun hc => ?_) (fun hc => ?_) | refine condV_b (fun hc => ?_) (fun hc => ?_)) <;> (try simp only [decide_eq_true_eq, decide_eq_false_iff_not, Bool.not_true, Bool.not_false, Bool.not_eq_true', Bool.not_eq_false'] at hc) <;> (try (exfalso; omega)))
    | (with_reducible refine and_i ?_ ?_; (· first | omega | assumption | (refine ⟨?_, ?_⟩ <;> (first | omega | assumption | (simp only [List.length_append, List.length_map, List.length_cons, List.length_nil] <;> omega))) | (refine ⟨?_, ?_, ?_⟩ <;> (first | omega | assumption | (simp only [List.length_append, List.length_map, List.length_cons, List.length_nil] <;> omega))) | (simp only [List.length_append, List.length_map, List.length_cons, List.length_nil] <;> omega)))
    | (with_reducible refine ex_seal ?_)
    | fail)
  refine awl_ind (α := Nat) (fun k => [(0, .sl (l.flatMap tokA) l.length o1), (1, .sl (l.flatMap tokA) l.length o2), (2, .c (.bool b)), (7, .c (.int .i64 (k : Int)))])
    (fun k => k ≤ l.length) (fun k => l.length - k) 0 [0, 1, 2, 7] ?_ (Nat.zero_le _) ?_
  · simp only [go_sem, ↓reduceIte, Nat.reduceEqDiff, Nat.reduceLT, Nat.reduceLeDiff, Nat.reduceAdd, Nat.reduceSub, Nat.reduceMul, Nat.reduceBEq, Nat.reduceBNe, Nat.reducePow, Int.reduceToNat, Int.reduceLE, Int.reduceLT, Int.reduceMul, Int.reduceEq, Int.reducePow, Int.reduceAdd, Int.reduceSub, Int.reduceNeg, reduceCtorEq] <;> rfl
  intro k hk ih
  by_cases hlt : k < l.length
  · have hlt' : ((k : Int) < (l.length : Int)) = True := eq_true (by omega)
    have hkw : IntKind.i64.wrap ((k : Int) + 1) = ((k + 1 : Nat) : Int) := by rw [wrap_i64 (by omega) (by omega)]; rfl
    have hg0 := fm_get0 (f := tokA) (k := 3) (fun _ => rfl) hlt (by decide)
    have hg1 := fm_get (f := tokA) (k := 3) (fun _ => rfl) hlt 1 (by decide)
    have hg2 := fm_get (f := tokA) (k := 3) (fun _ => rfl) hlt 2 (by decide)
    have hfl := fm_len (f := tokA) (k := 3) (fun _ => rfl) l
    generalize l[k] = t at *
    obtain ⟨kd, at0, tx⟩ := t
    cases b
    · repeat' (first
        | (with_reducible refine hY _ ?_; clear hY Y)
        | ((with_reducible first | refine run_n rfl (runN fun K' hK' => todo ?_) | refine hK' _ (eqTo2 fun Y hY => todo ?_) | refine run_g rfl (eqTo2 fun Y hY => todo ?_) | refine eqTo2 fun Y hY => todo ?_ | refine runN fun K' hK' => todo ?_ | refine aw_regionB tk0 lv_trammel_trammelref13_Same (eqTo2 fun Y hY => todo ?_) | refine todo ?_ | refine qretT_r ?_ | refine draw_n rfl (drawN fun K' hK' => todo ?_) | refine hK' _ _ (eqTo2 fun Y hY => todo ?_) | refine draw_g rfl (eqTo2 fun Y hY => todo ?_) | refine drawN fun K' hK' => todo ?_ | refine qretT_n ?_); (try clear hK' K'); (try dsimp only [aop]); try simp only [go_sem, ↓reduceIte, Nat.reduceEqDiff, Nat.reduceLT, Nat.reduceLeDiff, Nat.reduceAdd, Nat.reduceSub, Nat.reduceMul, Nat.reduceBEq, Nat.reduceBNe, Nat.reducePow, Int.reduceToNat, Int.reduceLE, Int.reduceLT, Int.reduceMul, Int.reduceEq, Int.reducePow, Int.reduceAdd, Int.reduceSub, Int.reduceNeg, reduceCtorEq, lv_trammel_trammelref13_Same, Tryd.results9, hlt', hfl, hg0, hg1, hg2, hkw, beq_self_eq_true])
        | (with_reducible first | refine run_nil ?_ | refine guardG_n rfl ?_ | refine guardG_y ?_ | refine guardG_u ?_ | refine andD ?_ ?_ | refine then_n ?_ | refine aw_seq ?_ | refine regN fun K hK => ?_ | refine condV_t ?_ | refine condV_f ?_ | refine then_e ?_ | refine then_r ?_ | refine block_n ?_ | refine block_r ?_ | refine block_e ?_ | refine aw_block ?_ | refine aw_skip ?_ | refine aw_ret ?_ | refine aw_exit ?_ | refine aw_loop ?_ | refine aw_condc_t ?_ | refine aw_condc_f ?_ | refine draw_nil ?_ | refine regD fun K hK => ?_)
        | (with_reducible refine hK _ ?_; clear hK K)
        | (with_reducible refine hK _ _ ?_ ?_; (· kernel_rfl); clear hK K)
        | ((with_reducible first | refine gO_some ?_ ?_ | refine aw_condE ?_ ?_ | refine block_o ?_ ?_); (· decide))
        | (with_reducible refine aw_drawB tk0 lv_trammel_trammelref13_Same ?_ ?_; (· kernel_rfl))
        | ((with_reducible first | refine guardG_b (fun hc => ?_) (fun hc => ?_) | refine condV_b (fun hc => ?_) (fun hc => ?_)) <;> (try simp only [decide_eq_true_eq, decide_eq_false_iff_not, Bool.not_true, Bool.not_false, Bool.not_eq_true', Bool.not_eq_false'] at hc) <;> (try (exfalso; omega)))
        | (with_reducible refine and_i ?_ ?_; (· first | omega | assumption | (refine ⟨?_, ?_⟩ <;> (first | omega | assumption | (simp only [List.length_append, List.length_map, List.length_cons, List.length_nil] <;> omega))) | (refine ⟨?_, ?_, ?_⟩ <;> (first | omega | assumption | (simp only [List.length_append, List.length_map, List.length_cons, List.length_nil] <;> omega))) | (simp only [List.length_append, List.length_map, List.length_cons, List.length_nil] <;> omega)))
        | (with_reducible refine ex_okT (eql_pure _) ?_)
        | (with_reducible refine ex_seal ?_)
        | fail)
      refine awl_keep [0, 1, 2, 7] (by simp only [go_sem, ↓reduceIte, Nat.reduceEqDiff, Nat.reduceLT, Nat.reduceLeDiff, Nat.reduceAdd, Nat.reduceSub, Nat.reduceMul, Nat.reduceBEq, Nat.reduceBNe, Nat.reducePow, Int.reduceToNat, Int.reduceLE, Int.reduceLT, Int.reduceMul, Int.reduceEq, Int.reducePow, Int.reduceAdd, Int.reduceSub, Int.reduceNeg, reduceCtorEq]; exact rfl) ?_
      exact ih (k + 1) (by omega) (by omega)
    · repeat' (first
        | (with_reducible refine hY _ ?_; clear hY Y)
        | ((with_reducible first | refine run_n rfl (runN fun K' hK' => todo ?_) | refine hK' _ (eqTo2 fun Y hY => todo ?_) | refine run_g rfl (eqTo2 fun Y hY => todo ?_) | refine eqTo2 fun Y hY => todo ?_ | refine runN fun K' hK' => todo ?_ | refine aw_regionB tk0 lv_trammel_trammelref13_Same (eqTo2 fun Y hY => todo ?_) | refine todo ?_ | refine qretT_r ?_ | refine draw_n rfl (drawN fun K' hK' => todo ?_) | refine hK' _ _ (eqTo2 fun Y hY => todo ?_) | refine draw_g rfl (eqTo2 fun Y hY => todo ?_) | refine drawN fun K' hK' => todo ?_ | refine qretT_n ?_); (try clear hK' K'); (try dsimp only [aop]); try simp only [go_sem, ↓reduceIte, Nat.reduceEqDiff, Nat.reduceLT, Nat.reduceLeDiff, Nat.reduceAdd, Nat.reduceSub, Nat.reduceMul, Nat.reduceBEq, Nat.reduceBNe, Nat.reducePow, Int.reduceToNat, Int.reduceLE, Int.reduceLT, Int.reduceMul, Int.reduceEq, Int.reducePow, Int.reduceAdd, Int.reduceSub, Int.reduceNeg, reduceCtorEq, lv_trammel_trammelref13_Same, Tryd.results9, hlt', hfl, hg0, hg1, hg2, hkw, beq_self_eq_true])
        | (with_reducible first | refine run_nil ?_ | refine guardG_n rfl ?_ | refine guardG_y ?_ | refine guardG_u ?_ | refine andD ?_ ?_ | refine then_n ?_ | refine aw_seq ?_ | refine regN fun K hK => ?_ | refine condV_t ?_ | refine condV_f ?_ | refine then_e ?_ | refine then_r ?_ | refine block_n ?_ | refine block_r ?_ | refine block_e ?_ | refine aw_block ?_ | refine aw_skip ?_ | refine aw_ret ?_ | refine aw_exit ?_ | refine aw_loop ?_ | refine aw_condc_t ?_ | refine aw_condc_f ?_ | refine draw_nil ?_ | refine regD fun K hK => ?_)
        | (with_reducible refine hK _ ?_; clear hK K)
        | (with_reducible refine hK _ _ ?_ ?_; (· kernel_rfl); clear hK K)
        | ((with_reducible first | refine gO_some ?_ ?_ | refine aw_condE ?_ ?_ | refine block_o ?_ ?_); (· decide))
        | (with_reducible refine aw_drawB tk0 lv_trammel_trammelref13_Same ?_ ?_; (· kernel_rfl))
        | ((with_reducible first | refine guardG_b (fun hc => ?_) (fun hc => ?_) | refine condV_b (fun hc => ?_) (fun hc => ?_)) <;> (try simp only [decide_eq_true_eq, decide_eq_false_iff_not, Bool.not_true, Bool.not_false, Bool.not_eq_true', Bool.not_eq_false'] at hc) <;> (try (exfalso; omega)))
        | (with_reducible refine and_i ?_ ?_; (· first | omega | assumption | (refine ⟨?_, ?_⟩ <;> (first | omega | assumption | (simp only [List.length_append, List.length_map, List.length_cons, List.length_nil] <;> omega))) | (refine ⟨?_, ?_, ?_⟩ <;> (first | omega | assumption | (simp only [List.length_append, List.length_map, List.length_cons, List.length_nil] <;> omega))) | (simp only [List.length_append, List.length_map, List.length_cons, List.length_nil] <;> omega)))
        | (with_reducible refine ex_okT (eql_pure _) ?_)
        | (with_reducible refine ex_seal ?_)
        | fail)
      refine awl_keep [0, 1, 2, 7] (by simp only [go_sem, ↓reduceIte, Nat.reduceEqDiff, Nat.reduceLT, Nat.reduceLeDiff, Nat.reduceAdd, Nat.reduceSub, Nat.reduceMul, Nat.reduceBEq, Nat.reduceBNe, Nat.reducePow, Int.reduceToNat, Int.reduceLE, Int.reduceLT, Int.reduceMul, Int.reduceEq, Int.reducePow, Int.reduceAdd, Int.reduceSub, Int.reduceNeg, reduceCtorEq]; exact rfl) ?_
      exact ih (k + 1) (by omega) (by omega)
  · have hlt' : ((k : Int) < (l.length : Int)) = False := eq_false (by omega)
    repeat' (first
      | (with_reducible refine hY _ ?_; clear hY Y)
      | ((with_reducible first | refine run_n rfl (runN fun K' hK' => todo ?_) | refine hK' _ (eqTo2 fun Y hY => todo ?_) | refine run_g rfl (eqTo2 fun Y hY => todo ?_) | refine eqTo2 fun Y hY => todo ?_ | refine runN fun K' hK' => todo ?_ | refine aw_regionB tk0 lv_trammel_trammelref13_Same (eqTo2 fun Y hY => todo ?_) | refine todo ?_ | refine qretT_r ?_ | refine draw_n rfl (drawN fun K' hK' => todo ?_) | refine hK' _ _ (eqTo2 fun Y hY => todo ?_) | refine draw_g rfl (eqTo2 fun Y hY => todo ?_) | refine drawN fun K' hK' => todo ?_ | refine qretT_n ?_); (try clear hK' K'); (try dsimp only [aop]); try simp only [go_sem, ↓reduceIte, Nat.reduceEqDiff, Nat.reduceLT, Nat.reduceLeDiff, Nat.reduceAdd, Nat.reduceSub, Nat.reduceMul, Nat.reduceBEq, Nat.reduceBNe, Nat.reducePow, Int.reduceToNat, Int.reduceLE, Int.reduceLT, Int.reduceMul, Int.reduceEq, Int.reducePow, Int.reduceAdd, Int.reduceSub, Int.reduceNeg, reduceCtorEq, lv_trammel_trammelref13_Same, Tryd.results9, hlt'])
      | (with_reducible first | refine run_nil ?_ | refine guardG_n rfl ?_ | refine guardG_y ?_ | refine guardG_u ?_ | refine andD ?_ ?_ | refine then_n ?_ | refine aw_seq ?_ | refine regN fun K hK => ?_ | refine condV_t ?_ | refine condV_f ?_ | refine then_e ?_ | refine then_r ?_ | refine block_n ?_ | refine block_r ?_ | refine block_e ?_ | refine aw_block ?_ | refine aw_skip ?_ | refine aw_ret ?_ | refine aw_exit ?_ | refine aw_loop ?_ | refine aw_condc_t ?_ | refine aw_condc_f ?_ | refine draw_nil ?_ | refine regD fun K hK => ?_)
      | (with_reducible refine hK _ ?_; clear hK K)
      | (with_reducible refine hK _ _ ?_ ?_; (· kernel_rfl); clear hK K)
      | ((with_reducible first | refine gO_some ?_ ?_ | refine aw_condE ?_ ?_ | refine block_o ?_ ?_); (· decide))
      | (with_reducible refine aw_drawB tk0 lv_trammel_trammelref13_Same ?_ ?_; (· kernel_rfl))
      | ((with_reducible first | refine guardG_b (fun hc => ?_) (fun hc => ?_) | refine condV_b (fun hc => ?_) (fun hc => ?_)) <;> (try simp only [decide_eq_true_eq, decide_eq_false_iff_not, Bool.not_true, Bool.not_false, Bool.not_eq_true', Bool.not_eq_false'] at hc) <;> (try (exfalso; omega)))
      | (with_reducible refine and_i ?_ ?_; (· first | omega | assumption | (refine ⟨?_, ?_⟩ <;> (first | omega | assumption | (simp only [List.length_append, List.length_map, List.length_cons, List.length_nil] <;> omega))) | (refine ⟨?_, ?_, ?_⟩ <;> (first | omega | assumption | (simp only [List.length_append, List.length_map, List.length_cons, List.length_nil] <;> omega))) | (simp only [List.length_append, List.length_map, List.length_cons, List.length_nil] <;> omega)))
      | (with_reducible refine ex_seal ?_)
      | fail)
set_option maxRecDepth 100000 in
theorem eql_bool (a b : Bool) : ∀ w, (((pure () : Sem Unit) >>= fun _ => binOp .eql 4 (.bool a) (.bool b)) : Sem Value).run Tryd.prog w = .ok (.bool (a == b)) w := fun w => by
  have ht := Tryd.underlying4
  have h : ∀ d : Nat, (Op.equalIn (d + 2) 4 (.bool a) (.bool b)).run Tryd.prog w = .ok (a == b) w := fun d => by
    simp [Op.equalIn, run_underlying ht]
  have h2 : (binOp .eql 4 (.bool a) (.bool b)).run Tryd.prog w = .ok (.bool (a == b)) w := by
    simp only [binOp]
    simp [Op.equal, Op.maxDepth, h 9998]
  rw [Sem.run_bind]
  exact h2
theorem ex1_l : scanL [120, 58, 61, 103, 101, 116, 32, 121, 46, 102, 59] = ([⟨1, 0, [120]⟩, ⟨4, 1, [58, 61]⟩, ⟨2, 3, [103, 101, 116]⟩, ⟨1, 7, [121]⟩, ⟨4, 8, [46]⟩, ⟨1, 9, [102]⟩, ⟨4, 10, [59]⟩], 0, -1) := by kernel_rfl
theorem ex2_l : scanL [48, 49] = ([], 5, 0) := by kernel_rfl
def lv_trammel_trammellaw13_up : Nat → List Nat
  | 0 => []
  | 1 => []
  | 2 => [1, 2]
  | 3 => [1, 2, 4]
  | _ => []
set_option maxRecDepth 100000 in
set_option maxHeartbeats 4000000 in
theorem up13_k : AFn Tryd.prog 6 [] [] (.c (.bool true)) [] := by
  have h1 := scan_k [120, 58, 61, 103, 101, 116, 32, 121, 46, 102, 59]
  have h2 := scan_k [48, 49]
  rw [ex1_l] at h1
  rw [ex2_l] at h2
  have h3 := is_spot_k 0 0 5 5 (by decide)
  unfold scanA errA at h1 h2
  simp only [if_true] at h1
  unfold spotA at h2 h3
  refine afn_of [] Tryd.func6 rfl Tryd.ntmps6 (Nat.le_of_ble_eq_true rfl) (Nat.le_of_ble_eq_true rfl) fun w0 G0 B0 Pr hB0 => ?_
  simp only [start, argMap, List.cons_append, List.nil_append]
  repeat' (first
    | (with_reducible refine hY _ ?_; clear hY Y)
    | ((with_reducible first | refine run_n rfl (runN fun K' hK' => todo ?_) | refine hK' _ (eqTo2 fun Y hY => todo ?_) | refine run_g rfl (eqTo2 fun Y hY => todo ?_) | refine eqTo2 fun Y hY => todo ?_ | refine runN fun K' hK' => todo ?_ | refine aw_regionB tk0 lv_trammel_trammellaw13_up (eqTo2 fun Y hY => todo ?_) | refine todo ?_ | refine qretT_r ?_ | refine draw_n rfl (drawN fun K' hK' => todo ?_) | refine hK' _ _ (eqTo2 fun Y hY => todo ?_) | refine draw_g rfl (eqTo2 fun Y hY => todo ?_) | refine drawN fun K' hK' => todo ?_ | refine qretT_n ?_); (try clear hK' K'); (try dsimp only [aop]); try simp only [go_sem, ↓reduceIte, Nat.reduceEqDiff, Nat.reduceLT, Nat.reduceLeDiff, Nat.reduceAdd, Nat.reduceSub, Nat.reduceMul, Nat.reduceBEq, Nat.reduceBNe, Nat.reducePow, Int.reduceToNat, Int.reduceLE, Int.reduceLT, Int.reduceMul, Int.reduceEq, Int.reducePow, Int.reduceAdd, Int.reduceSub, Int.reduceNeg, reduceCtorEq, lv_trammel_trammellaw13_up, Tryd.results6])
    | (with_reducible first | refine run_nil ?_ | refine guardG_n rfl ?_ | refine guardG_y ?_ | refine guardG_u ?_ | refine andD ?_ ?_ | refine then_n ?_ | refine aw_seq ?_ | refine regN fun K hK => ?_ | refine condV_t ?_ | refine condV_f ?_ | refine then_e ?_ | refine then_r ?_ | refine block_n ?_ | refine block_r ?_ | refine block_e ?_ | refine aw_block ?_ | refine aw_skip ?_ | refine aw_ret ?_ | refine aw_exit ?_ | refine aw_loop ?_ | refine aw_condc_t ?_ | refine aw_condc_f ?_ | refine draw_nil ?_ | refine regD fun K hK => ?_)
    | (with_reducible refine hK _ ?_; clear hK K)
    | (with_reducible refine hK _ _ ?_ ?_; (· kernel_rfl); clear hK K)
    | ((with_reducible first | refine gO_some ?_ ?_ | refine aw_condE ?_ ?_ | refine block_o ?_ ?_); (· decide))
    | (with_reducible refine aw_drawB tk0 lv_trammel_trammellaw13_up ?_ ?_; (· kernel_rfl))
    | ((with_reducible first | refine guardG_b (fun hc => ?_) (fun hc => ?_) | refine condV_b (fun hc => ?_) (fun hc => ?_)) <;> (try simp only [decide_eq_true_eq, decide_eq_false_iff_not, Bool.not_true, Bool.not_false, Bool.not_eq_true', Bool.not_eq_false'] at hc) <;> (try (exfalso; omega)))
    | (with_reducible refine and_i ?_ ?_; (· first | omega | assumption | (refine ⟨?_, ?_⟩ <;> (first | omega | assumption | (simp only [List.length_append, List.length_map, List.length_cons, List.length_nil] <;> omega))) | (refine ⟨?_, ?_, ?_⟩ <;> (first | omega | assumption | (simp only [List.length_append, List.length_map, List.length_cons, List.length_nil] <;> omega))) | (simp only [List.length_append, List.length_map, List.length_cons, List.length_nil] <;> omega)))
    | (with_reducible refine ex_callT (h1) ?_)
    | (with_reducible refine ex_callT (h2) ?_)
    | (with_reducible refine ex_callT (h3) ?_)
    | (with_reducible refine ex_okT (eql_nil) ?_)
    | (with_reducible refine ex_okT (eql_pure _) ?_)
    | (with_reducible refine ex_seal ?_)
    | fail)
def lv_trammel_trammellaw13_ScanWords : Nat → List Nat
  | 0 => [0]
  | 1 => [0]
  | 2 => [0, 3]
  | 3 => [3]
  | 4 => [0, 3]
  | _ => []
set_option maxRecDepth 100000 in
set_option maxHeartbeats 4000000 in
theorem words_k (l : List UInt8) (_ : l.length ≤ 140737488351232) : AFn Tryd.prog 5 [bs l] [] (.c (.bool true)) [] := by
  have h1 := up13_k
  by_cases hl : 5000 < l.length
  · have hl' : ((5000 : Int) < (l.length : Int)) = True := eq_true (by omega)
    refine afn_of [] Tryd.func5 rfl Tryd.ntmps5 (Nat.le_of_ble_eq_true rfl) (Nat.le_of_ble_eq_true rfl) fun w0 G0 B0 Pr hB0 => ?_
    simp only [start, argMap, List.cons_append, List.nil_append]
    repeat' (first
      | (with_reducible refine hY _ ?_; clear hY Y)
      | ((with_reducible first | refine run_n rfl (runN fun K' hK' => todo ?_) | refine hK' _ (eqTo2 fun Y hY => todo ?_) | refine run_g rfl (eqTo2 fun Y hY => todo ?_) | refine eqTo2 fun Y hY => todo ?_ | refine runN fun K' hK' => todo ?_ | refine aw_regionB tk0 lv_trammel_trammellaw13_ScanWords (eqTo2 fun Y hY => todo ?_) | refine todo ?_ | refine qretT_r ?_ | refine draw_n rfl (drawN fun K' hK' => todo ?_) | refine hK' _ _ (eqTo2 fun Y hY => todo ?_) | refine draw_g rfl (eqTo2 fun Y hY => todo ?_) | refine drawN fun K' hK' => todo ?_ | refine qretT_n ?_); (try clear hK' K'); (try dsimp only [aop]); try simp only [go_sem, ↓reduceIte, Nat.reduceEqDiff, Nat.reduceLT, Nat.reduceLeDiff, Nat.reduceAdd, Nat.reduceSub, Nat.reduceMul, Nat.reduceBEq, Nat.reduceBNe, Nat.reducePow, Int.reduceToNat, Int.reduceLE, Int.reduceLT, Int.reduceMul, Int.reduceEq, Int.reducePow, Int.reduceAdd, Int.reduceSub, Int.reduceNeg, reduceCtorEq, lv_trammel_trammellaw13_ScanWords, Tryd.results5, hl'])
      | (with_reducible first | refine run_nil ?_ | refine guardG_n rfl ?_ | refine guardG_y ?_ | refine guardG_u ?_ | refine andD ?_ ?_ | refine then_n ?_ | refine aw_seq ?_ | refine regN fun K hK => ?_ | refine condV_t ?_ | refine condV_f ?_ | refine then_e ?_ | refine then_r ?_ | refine block_n ?_ | refine block_r ?_ | refine block_e ?_ | refine aw_block ?_ | refine aw_skip ?_ | refine aw_ret ?_ | refine aw_exit ?_ | refine aw_loop ?_ | refine aw_condc_t ?_ | refine aw_condc_f ?_ | refine draw_nil ?_ | refine regD fun K hK => ?_)
      | (with_reducible refine hK _ ?_; clear hK K)
      | (with_reducible refine hK _ _ ?_ ?_; (· kernel_rfl); clear hK K)
      | ((with_reducible first | refine gO_some ?_ ?_ | refine aw_condE ?_ ?_ | refine block_o ?_ ?_); (· decide))
      | (with_reducible refine aw_drawB tk0 lv_trammel_trammellaw13_ScanWords ?_ ?_; (· kernel_rfl))
      | ((with_reducible first | refine guardG_b (fun hc => ?_) (fun hc => ?_) | refine condV_b (fun hc => ?_) (fun hc => ?_)) <;> (try simp only [decide_eq_true_eq, decide_eq_false_iff_not, Bool.not_true, Bool.not_false, Bool.not_eq_true', Bool.not_eq_false'] at hc) <;> (try (exfalso; omega)))
      | (with_reducible refine and_i ?_ ?_; (· first | omega | assumption | (refine ⟨?_, ?_⟩ <;> (first | omega | assumption | (simp only [List.length_append, List.length_map, List.length_cons, List.length_nil] <;> omega))) | (refine ⟨?_, ?_, ?_⟩ <;> (first | omega | assumption | (simp only [List.length_append, List.length_map, List.length_cons, List.length_nil] <;> omega))) | (simp only [List.length_append, List.length_map, List.length_cons, List.length_nil] <;> omega)))
      | (with_reducible refine ex_callT (h1) ?_)
      | (with_reducible refine ex_seal ?_)
      | fail)
  have hl' : ((5000 : Int) < (l.length : Int)) = False := eq_false (by omega)
  have h2 := key_k l
  have h3 := rKey_k l
  have h4 := name_k l (by omega)
  have h5 := rName_k l (by omega)
  generalize keyL.contains l = b1 at *
  generalize nameB l = b2 at *
  refine afn_of [] Tryd.func5 rfl Tryd.ntmps5 (Nat.le_of_ble_eq_true rfl) (Nat.le_of_ble_eq_true rfl) fun w0 G0 B0 Pr hB0 => ?_
  simp only [start, argMap, List.cons_append, List.nil_append]
  repeat' (first
    | (with_reducible refine hY _ ?_; clear hY Y)
    | ((with_reducible first | refine run_n rfl (runN fun K' hK' => todo ?_) | refine hK' _ (eqTo2 fun Y hY => todo ?_) | refine run_g rfl (eqTo2 fun Y hY => todo ?_) | refine eqTo2 fun Y hY => todo ?_ | refine runN fun K' hK' => todo ?_ | refine aw_regionB tk0 lv_trammel_trammellaw13_ScanWords (eqTo2 fun Y hY => todo ?_) | refine todo ?_ | refine qretT_r ?_ | refine draw_n rfl (drawN fun K' hK' => todo ?_) | refine hK' _ _ (eqTo2 fun Y hY => todo ?_) | refine draw_g rfl (eqTo2 fun Y hY => todo ?_) | refine drawN fun K' hK' => todo ?_ | refine qretT_n ?_); (try clear hK' K'); (try dsimp only [aop]); try simp only [go_sem, ↓reduceIte, Nat.reduceEqDiff, Nat.reduceLT, Nat.reduceLeDiff, Nat.reduceAdd, Nat.reduceSub, Nat.reduceMul, Nat.reduceBEq, Nat.reduceBNe, Nat.reducePow, Int.reduceToNat, Int.reduceLE, Int.reduceLT, Int.reduceMul, Int.reduceEq, Int.reducePow, Int.reduceAdd, Int.reduceSub, Int.reduceNeg, reduceCtorEq, lv_trammel_trammellaw13_ScanWords, Tryd.results5, hl', beq_self_eq_true])
    | (with_reducible first | refine run_nil ?_ | refine guardG_n rfl ?_ | refine guardG_y ?_ | refine guardG_u ?_ | refine andD ?_ ?_ | refine then_n ?_ | refine aw_seq ?_ | refine regN fun K hK => ?_ | refine condV_t ?_ | refine condV_f ?_ | refine then_e ?_ | refine then_r ?_ | refine block_n ?_ | refine block_r ?_ | refine block_e ?_ | refine aw_block ?_ | refine aw_skip ?_ | refine aw_ret ?_ | refine aw_exit ?_ | refine aw_loop ?_ | refine aw_condc_t ?_ | refine aw_condc_f ?_ | refine draw_nil ?_ | refine regD fun K hK => ?_)
    | (with_reducible refine hK _ ?_; clear hK K)
    | (with_reducible refine hK _ _ ?_ ?_; (· kernel_rfl); clear hK K)
    | ((with_reducible first | refine gO_some ?_ ?_ | refine aw_condE ?_ ?_ | refine block_o ?_ ?_); (· decide))
    | (with_reducible refine aw_drawB tk0 lv_trammel_trammellaw13_ScanWords ?_ ?_; (· kernel_rfl))
    | ((with_reducible first | refine guardG_b (fun hc => ?_) (fun hc => ?_) | refine condV_b (fun hc => ?_) (fun hc => ?_)) <;> (try simp only [decide_eq_true_eq, decide_eq_false_iff_not, Bool.not_true, Bool.not_false, Bool.not_eq_true', Bool.not_eq_false'] at hc) <;> (try (exfalso; omega)))
    | (with_reducible refine and_i ?_ ?_; (· first | omega | assumption | (refine ⟨?_, ?_⟩ <;> (first | omega | assumption | (simp only [List.length_append, List.length_map, List.length_cons, List.length_nil] <;> omega))) | (refine ⟨?_, ?_, ?_⟩ <;> (first | omega | assumption | (simp only [List.length_append, List.length_map, List.length_cons, List.length_nil] <;> omega))) | (simp only [List.length_append, List.length_map, List.length_cons, List.length_nil] <;> omega)))
    | (with_reducible refine ex_callT (h1) ?_)
    | (with_reducible refine ex_callT (h2) ?_)
    | (with_reducible refine ex_callT (h3) ?_)
    | (with_reducible refine ex_callT (h4) ?_)
    | (with_reducible refine ex_callT (h5) ?_)
    | (with_reducible refine ex_okT (eql_bool _ _) ?_)
    | (with_reducible refine ex_seal ?_)
    | fail)
end Go.Proofs.YteohaabijmdkgaaDoor
