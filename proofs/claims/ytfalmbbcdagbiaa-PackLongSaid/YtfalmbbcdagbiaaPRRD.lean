/- The document's Read in K. -/
import Derived.Test.YtfalmbbcdagbiaaPRRC
import Derived.Test.YtfalmbbcdagbiaaPRdD
namespace Go.Proofs.Ytfalmbbcdagbiaa
set_option linter.unusedSimpArgs false
set_option linter.unusedVariables false
open Go.RowKit
def rReadA (p : List RecordD × Nat) : AV := .tup [.agg [recordsA p.1], intA (p.2 : Int)]
theorem drop_suff {ys b : List Nat} (h : ys <:+ b) {a : Nat} (ha : a = b.length - ys.length) : b.drop a = ys := by
  obtain ⟨pre, rfl⟩ := h
  simp at ha
  subst ha; simp
def lv_trammel_trammelref12_Read : Nat → List Nat
  | 0 => [0]
  | 1 => [0, 2]
  | 2 => [2]
  | 3 => [0, 2]
  | 4 => [0, 2, 4]
  | 5 => [0, 2, 4, 5]
  | 6 => [0, 2, 4, 5, 6]
  | 7 => [0, 2, 4, 5, 6, 7]
  | 8 => [0, 2, 4, 5, 6, 7]
  | 9 => [0, 2, 4, 5, 6, 7]
  | 10 => [0, 2, 4, 5, 6, 7, 8]
  | 11 => [0, 2, 4, 5, 6, 7, 8, 9]
  | 12 => [0, 2, 4, 5, 6, 7, 8, 9]
  | 13 => [0, 2, 4, 5, 6, 7, 8]
  | 14 => [0, 2, 4, 5, 6, 7, 8, 10]
  | 15 => [0, 2, 4, 5, 6, 7, 8, 10, 11]
  | 16 => [0, 2, 4, 5, 6, 7, 8, 10, 11]
  | 17 => [0, 2, 4, 5, 6, 7, 8, 10, 11]
  | 18 => [0, 2, 4, 5, 6, 7, 8]
  | 19 => [0, 2, 4, 5]
  | 20 => [2]
  | 21 => [0, 2, 4, 5]
  | 22 => [2]
  | 23 => [2, 5]
  | _ => []
set_option maxRecDepth 100000 in
set_option maxHeartbeats 8000000 in
theorem rRead_k (b : List Nat) (h8 : Is8 b) (hbl : b.length ≤ 140737488355328) : AFn Try.prog 13 [.sl (b.map byteN) b.length .none] [] (rReadA (readR b)) [] := by
  unfold readR
  by_cases hlen : 4194304 < b.length
  case pos =>
    rw [if_pos hlen]
    refine afn_wk (r := .tup [.agg [.sl [] 0 .full], intA 2]) ?_ 4 (by simp [wkA, rReadA])
    refine afn_of [] Try.func13 rfl Try.ntmps13 (Nat.le_of_ble_eq_true rfl) (Nat.le_of_ble_eq_true rfl) fun w0 G0 B0 Pr hB0 => ?_
    simp only [start, argMap, List.cons_append, List.nil_append]
    have hl1 : (4194304 : Int) < (b.length : Int) := by omega
    repeat' (first
      | (with_reducible refine hY _ ?_; clear hY Y)
      | ((with_reducible first | refine run_n rfl (runN fun K' hK' => todo ?_) | refine hK' _ (eqTo2 fun Y hY => todo ?_) | refine run_g rfl (eqTo2 fun Y hY => todo ?_) | refine eqTo2 fun Y hY => todo ?_ | refine runN fun K' hK' => todo ?_ | refine aw_regionB tk0 lv_trammel_trammelref12_Read (eqTo2 fun Y hY => todo ?_) | refine todo ?_ | refine qretT_r ?_ | refine draw_n rfl (drawN fun K' hK' => todo ?_) | refine hK' _ _ (eqTo2 fun Y hY => todo ?_) | refine draw_g rfl (eqTo2 fun Y hY => todo ?_) | refine drawN fun K' hK' => todo ?_ | refine qretT_n ?_); (try clear hK' K'); (try dsimp only [aop]); try simp only [go_sem, ↓reduceIte, Nat.reduceEqDiff, Nat.reduceLT, Nat.reduceLeDiff, Nat.reduceAdd, Nat.reduceSub, Nat.reduceMul, Nat.reduceBEq, Nat.reduceBNe, Nat.reducePow, Int.reduceToNat, Int.reduceLE, Int.reduceLT, Int.reduceMul, Int.reduceEq, Int.reducePow, Int.reduceAdd, Int.reduceSub, Int.reduceNeg, reduceCtorEq, lv_trammel_trammelref12_Read, Try.results13, hl1])
      | (with_reducible first | refine run_nil ?_ | refine guardG_n rfl ?_ | refine guardG_y ?_ | refine guardG_u ?_ | refine andD ?_ ?_ | refine then_n ?_ | refine aw_seq ?_ | refine regN fun K hK => ?_ | refine condV_t ?_ | refine condV_f ?_ | refine then_e ?_ | refine then_r ?_ | refine block_n ?_ | refine block_r ?_ | refine block_e ?_ | refine aw_block ?_ | refine aw_skip ?_ | refine aw_ret ?_ | refine aw_exit ?_ | refine aw_loop ?_ | refine aw_condc_t ?_ | refine aw_condc_f ?_ | refine draw_nil ?_ | refine regD fun K hK => ?_)
      | (with_reducible refine hK _ ?_; clear hK K)
      | (with_reducible refine hK _ _ ?_ ?_; (· kernel_rfl); clear hK K)
      | ((with_reducible first | refine gO_some ?_ ?_ | refine aw_condE ?_ ?_ | refine block_o ?_ ?_); (· decide))
      | (with_reducible refine aw_drawB tk0 lv_trammel_trammelref12_Read ?_ ?_; (· kernel_rfl))
      | ((with_reducible first | refine guardG_b (fun hc => ?_) (fun hc => ?_) | refine condV_b (fun hc => ?_) (fun hc => ?_)) <;> (try simp only [decide_eq_true_eq, decide_eq_false_iff_not, Bool.not_true, Bool.not_false, Bool.not_eq_true', Bool.not_eq_false'] at hc) <;> (try (exfalso; omega)))
      | (with_reducible refine and_i ?_ ?_; (· first | omega | assumption | (refine ⟨?_, ?_⟩ <;> (first | omega | assumption | (simp only [List.length_append, List.length_map, List.length_cons, List.length_nil] <;> omega))) | (refine ⟨?_, ?_, ?_⟩ <;> (first | omega | assumption | (simp only [List.length_append, List.length_map, List.length_cons, List.length_nil] <;> omega))) | (simp only [List.length_append, List.length_map, List.length_cons, List.length_nil] <;> omega)))
      | fail)
  rw [if_neg hlen]
  have hl1 : ¬ (4194304 : Int) < (b.length : Int) := by omega
  have hlen2 : b.length ≤ 4194304 := by omega
  have hmk := rManyR_k b ⟨b, false⟩ (List.suffix_refl _) h8 hlen2
  have hml := many_le ⟨b, false⟩
  have hm8 := Is8.suffix h8 (fwd_many ⟨b, false⟩)
  have hms := fwd_many ⟨b, false⟩
  have hm2 := hms.length_le
  have hst := li_start recordR ⟨b, false⟩
  simp only at hm2 hms
  have hraw : ∃ r0, wkA 4 r0 = rReadA (if (severalR recordR ⟨b, false⟩).2.bad = true then ([], 5) else if 0 < (severalR recordR ⟨b, false⟩).2.xs.length then ([], 16) else ((severalR recordR ⟨b, false⟩).1, 0)) ∧
      r0 = if (severalR recordR ⟨b, false⟩).2.bad = true then .tup [.agg [.sl [] 0 .full], intA 5] else if 0 < (severalR recordR ⟨b, false⟩).2.xs.length then .tup [.agg [.sl [] 0 .full], intA 16]
        else .tup [.agg [recordsA (severalR recordR ⟨b, false⟩).1], intA 0] := by
    refine ⟨_, ?_, rfl⟩
    split
    · simp [wkA, rReadA]
    · split
      · simp [wkA, rReadA]
      · simp [wkA, rReadA]
  obtain ⟨r0, hr0, hr1⟩ := hraw
  refine afn_wk (r := r0) ?_ 4 hr0
  clear hr0
  refine afn_of [] Try.func13 rfl Try.ntmps13 (Nat.le_of_ble_eq_true rfl) (Nat.le_of_ble_eq_true rfl) fun w0 G0 B0 Pr hB0 => ?_
  simp only [start, argMap, List.cons_append, List.nil_append]
  generalize manyR ⟨b, false⟩ = q at *
  obtain ⟨n, s1⟩ := q
  simp only at hmk hml hm8 hms hm2 hst
  simp only [rrA, Nat.sub_self] at hmk
  obtain ⟨s0, hs0⟩ : ∃ s0 : Rd, s0 = ⟨b, false⟩ := ⟨_, rfl⟩
  rw [← hs0] at hst hr1
  repeat' (first
    | (with_reducible refine hY _ ?_; clear hY Y)
    | ((with_reducible first | refine run_n rfl (runN fun K' hK' => todo ?_) | refine hK' _ (eqTo2 fun Y hY => todo ?_) | refine run_g rfl (eqTo2 fun Y hY => todo ?_) | refine eqTo2 fun Y hY => todo ?_ | refine runN fun K' hK' => todo ?_ | refine aw_regionB tk0 lv_trammel_trammelref12_Read (eqTo2 fun Y hY => todo ?_) | refine todo ?_ | refine qretT_r ?_ | refine draw_n rfl (drawN fun K' hK' => todo ?_) | refine hK' _ _ (eqTo2 fun Y hY => todo ?_) | refine draw_g rfl (eqTo2 fun Y hY => todo ?_) | refine drawN fun K' hK' => todo ?_ | refine qretT_n ?_); (try clear hK' K'); (try dsimp only [aop]); try simp only [go_sem, ↓reduceIte, Nat.reduceEqDiff, Nat.reduceLT, Nat.reduceLeDiff, Nat.reduceAdd, Nat.reduceSub, Nat.reduceMul, Nat.reduceBEq, Nat.reduceBNe, Nat.reducePow, Int.reduceToNat, Int.reduceLE, Int.reduceLT, Int.reduceMul, Int.reduceEq, Int.reducePow, Int.reduceAdd, Int.reduceSub, Int.reduceNeg, reduceCtorEq, lv_trammel_trammelref12_Read, Try.results13, hl1])
    | (with_reducible first | refine run_nil ?_ | refine guardG_n rfl ?_ | refine guardG_y ?_ | refine guardG_u ?_ | refine andD ?_ ?_ | refine then_n ?_ | refine aw_seq ?_ | refine regN fun K hK => ?_ | refine condV_t ?_ | refine condV_f ?_ | refine then_e ?_ | refine then_r ?_ | refine block_n ?_ | refine block_r ?_ | refine block_e ?_ | refine aw_block ?_ | refine aw_skip ?_ | refine aw_ret ?_ | refine aw_exit ?_ | refine aw_loop ?_ | refine aw_condc_t ?_ | refine aw_condc_f ?_ | refine draw_nil ?_ | refine regD fun K hK => ?_)
    | (with_reducible refine hK _ ?_; clear hK K)
    | (with_reducible refine hK _ _ ?_ ?_; (· kernel_rfl); clear hK K)
    | ((with_reducible first | refine gO_some ?_ ?_ | refine aw_condE ?_ ?_ | refine block_o ?_ ?_); (· decide))
    | (with_reducible refine aw_drawB tk0 lv_trammel_trammelref12_Read ?_ ?_; (· kernel_rfl))
    | ((with_reducible first | refine guardG_b (fun hc => ?_) (fun hc => ?_) | refine condV_b (fun hc => ?_) (fun hc => ?_)) <;> (try simp only [decide_eq_true_eq, decide_eq_false_iff_not, Bool.not_true, Bool.not_false, Bool.not_eq_true', Bool.not_eq_false'] at hc) <;> (try (exfalso; omega)))
    | (with_reducible refine and_i ?_ ?_; (· first | omega | assumption | (refine ⟨?_, ?_⟩ <;> (first | omega | assumption | (simp only [List.length_append, List.length_map, List.length_cons, List.length_nil] <;> omega))) | (refine ⟨?_, ?_, ?_⟩ <;> (first | omega | assumption | (simp only [List.length_append, List.length_map, List.length_cons, List.length_nil] <;> omega))) | (simp only [List.length_append, List.length_map, List.length_cons, List.length_nil] <;> omega)))
    | (with_reducible refine ex_callT (hmk) ?_)
    | fail)
  refine awl_le (ale_tokB (b := 10085) (k0 := 10005) (i := 0) 37 (by decide) (by decide) (by decide) rfl rfl rfl) ?_
  refine awl_ind (α := List RecordD × Nat × Rd) (fun p => [(0, .sl (b.map byteN) b.length .none), (2, .loc 10002 0), (4, .loc 10018 0), (5, .loc 10005 0), (6, intA (n : Int)), (7, intA (p.2.1 : Int)), (10002, .bc [.sl [] 0 .full] 24), (10005, .bc [.sl (p.1.flatMap recordA) p.1.length (.tok 10085)] 24), (10018, rrA b p.2.2), (10085, .bt p.1.length 37)])
    (fun p => LoopI recordR s0 p.1 (n - p.2.1) p.2.2 ∧ Is8 p.2.2.xs ∧ p.2.2.xs <:+ b ∧ p.1.length + (n - p.2.1) ≤ 4194304 ∧ p.2.1 ≤ n) (fun p => n - p.2.1) ([], 0, s1) [0, 2, 4, 5, 6, 7] ?_ ⟨hst, hm8, hms, by (show 0 + n ≤ 4194304); omega, Nat.zero_le _⟩ ?_
  · simp only [go_sem, ↓reduceIte, Nat.reduceEqDiff, Nat.reduceLT, Nat.reduceLeDiff, Nat.reduceAdd, Nat.reduceSub, Nat.reduceMul, Nat.reduceBEq, Nat.reduceBNe, Nat.reducePow, Int.reduceToNat, Int.reduceLE, Int.reduceLT, Int.reduceMul, Int.reduceEq, Int.reducePow, Int.reduceAdd, Int.reduceSub, Int.reduceNeg, reduceCtorEq, List.set_cons_zero, List.set_cons_succ] <;> simp [intA]
  rintro ⟨acc, i, ⟨xs, bad⟩⟩ ⟨hI, h8', hs', hle, hin⟩ ih
  simp only at ih hI h8' hs' hle hin ⊢
  simp only [intA, rrA]
  by_cases hx : i < n ∧ bad = false
  case neg =>
    have hr : severalR recordR s0 = (acc, ⟨xs, bad⟩) := by
      by_cases hm : i < n
      · cases bad
        · exact absurd ⟨hm, rfl⟩ hx
        · exact li_bad hI rfl
      · exact li_zero hI (by omega)
    rw [hr] at hr1
    simp only at hr1
    subst hr1
    have hsl := hs'.length_le
    clear hr ih hI hst
    have hx' : (¬ (i : Int) < (n : Int)) ∨ ((i : Int) < (n : Int) ∧ bad = true) := by
      by_cases hm : i < n
      · cases bad
        · exact absurd ⟨hm, rfl⟩ hx
        · exact .inr ⟨by omega, rfl⟩
      · exact .inl (by omega)
    rcases hx' with hm1 | ⟨hm1, rfl⟩
    · cases bad
      · by_cases hz : 0 < xs.length
        · have hz1 : ((b.length - xs.length : Nat) : Int) < (b.length : Int) := by omega
          repeat' (first
            | (with_reducible refine hY _ ?_; clear hY Y)
            | ((with_reducible first | refine run_n rfl (runN fun K' hK' => todo ?_) | refine hK' _ (eqTo2 fun Y hY => todo ?_) | refine run_g rfl (eqTo2 fun Y hY => todo ?_) | refine eqTo2 fun Y hY => todo ?_ | refine runN fun K' hK' => todo ?_ | refine aw_regionB tk0 lv_trammel_trammelref12_Read (eqTo2 fun Y hY => todo ?_) | refine todo ?_ | refine qretT_r ?_ | refine draw_n rfl (drawN fun K' hK' => todo ?_) | refine hK' _ _ (eqTo2 fun Y hY => todo ?_) | refine draw_g rfl (eqTo2 fun Y hY => todo ?_) | refine drawN fun K' hK' => todo ?_ | refine qretT_n ?_); (try clear hK' K'); (try dsimp only [aop]); try simp only [go_sem, ↓reduceIte, Nat.reduceEqDiff, Nat.reduceLT, Nat.reduceLeDiff, Nat.reduceAdd, Nat.reduceSub, Nat.reduceMul, Nat.reduceBEq, Nat.reduceBNe, Nat.reducePow, Int.reduceToNat, Int.reduceLE, Int.reduceLT, Int.reduceMul, Int.reduceEq, Int.reducePow, Int.reduceAdd, Int.reduceSub, Int.reduceNeg, reduceCtorEq, lv_trammel_trammelref12_Read, Try.results13, hm1, hz1])
            | (with_reducible first | refine run_nil ?_ | refine guardG_n rfl ?_ | refine guardG_y ?_ | refine guardG_u ?_ | refine andD ?_ ?_ | refine then_n ?_ | refine aw_seq ?_ | refine regN fun K hK => ?_ | refine condV_t ?_ | refine condV_f ?_ | refine then_e ?_ | refine then_r ?_ | refine block_n ?_ | refine block_r ?_ | refine block_e ?_ | refine aw_block ?_ | refine aw_skip ?_ | refine aw_ret ?_ | refine aw_exit ?_ | refine aw_loop ?_ | refine aw_condc_t ?_ | refine aw_condc_f ?_ | refine draw_nil ?_ | refine regD fun K hK => ?_)
            | (with_reducible refine hK _ ?_; clear hK K)
            | (with_reducible refine hK _ _ ?_ ?_; (· kernel_rfl); clear hK K)
            | ((with_reducible first | refine gO_some ?_ ?_ | refine aw_condE ?_ ?_ | refine block_o ?_ ?_); (· decide))
            | (with_reducible refine aw_drawB tk0 lv_trammel_trammelref12_Read ?_ ?_; (· kernel_rfl))
            | ((with_reducible first | refine guardG_b (fun hc => ?_) (fun hc => ?_) | refine condV_b (fun hc => ?_) (fun hc => ?_)) <;> (try simp only [decide_eq_true_eq, decide_eq_false_iff_not, Bool.not_true, Bool.not_false, Bool.not_eq_true', Bool.not_eq_false'] at hc) <;> (try (exfalso; omega)))
            | (with_reducible refine and_i ?_ ?_; (· first | omega | assumption | (refine ⟨?_, ?_⟩ <;> (first | omega | assumption | (simp only [List.length_append, List.length_map, List.length_cons, List.length_nil] <;> omega))) | (refine ⟨?_, ?_, ?_⟩ <;> (first | omega | assumption | (simp only [List.length_append, List.length_map, List.length_cons, List.length_nil] <;> omega))) | (simp only [List.length_append, List.length_map, List.length_cons, List.length_nil] <;> omega)))
            | fail)
          all_goals simp [hz]
        · have hz1 : ¬ ((b.length - xs.length : Nat) : Int) < (b.length : Int) := by omega
          repeat' (first
            | (with_reducible refine hY _ ?_; clear hY Y)
            | ((with_reducible first | refine run_n rfl (runN fun K' hK' => todo ?_) | refine hK' _ (eqTo2 fun Y hY => todo ?_) | refine run_g rfl (eqTo2 fun Y hY => todo ?_) | refine eqTo2 fun Y hY => todo ?_ | refine runN fun K' hK' => todo ?_ | refine aw_regionB tk0 lv_trammel_trammelref12_Read (eqTo2 fun Y hY => todo ?_) | refine todo ?_ | refine qretT_r ?_ | refine draw_n rfl (drawN fun K' hK' => todo ?_) | refine hK' _ _ (eqTo2 fun Y hY => todo ?_) | refine draw_g rfl (eqTo2 fun Y hY => todo ?_) | refine drawN fun K' hK' => todo ?_ | refine qretT_n ?_); (try clear hK' K'); (try dsimp only [aop]); try simp only [go_sem, ↓reduceIte, Nat.reduceEqDiff, Nat.reduceLT, Nat.reduceLeDiff, Nat.reduceAdd, Nat.reduceSub, Nat.reduceMul, Nat.reduceBEq, Nat.reduceBNe, Nat.reducePow, Int.reduceToNat, Int.reduceLE, Int.reduceLT, Int.reduceMul, Int.reduceEq, Int.reducePow, Int.reduceAdd, Int.reduceSub, Int.reduceNeg, reduceCtorEq, lv_trammel_trammelref12_Read, Try.results13, hm1, hz1])
            | (with_reducible first | refine run_nil ?_ | refine guardG_n rfl ?_ | refine guardG_y ?_ | refine guardG_u ?_ | refine andD ?_ ?_ | refine then_n ?_ | refine aw_seq ?_ | refine regN fun K hK => ?_ | refine condV_t ?_ | refine condV_f ?_ | refine then_e ?_ | refine then_r ?_ | refine block_n ?_ | refine block_r ?_ | refine block_e ?_ | refine aw_block ?_ | refine aw_skip ?_ | refine aw_ret ?_ | refine aw_exit ?_ | refine aw_loop ?_ | refine aw_condc_t ?_ | refine aw_condc_f ?_ | refine draw_nil ?_ | refine regD fun K hK => ?_)
            | (with_reducible refine hK _ ?_; clear hK K)
            | (with_reducible refine hK _ _ ?_ ?_; (· kernel_rfl); clear hK K)
            | ((with_reducible first | refine gO_some ?_ ?_ | refine aw_condE ?_ ?_ | refine block_o ?_ ?_); (· decide))
            | (with_reducible refine aw_drawB tk0 lv_trammel_trammelref12_Read ?_ ?_; (· kernel_rfl))
            | ((with_reducible first | refine guardG_b (fun hc => ?_) (fun hc => ?_) | refine condV_b (fun hc => ?_) (fun hc => ?_)) <;> (try simp only [decide_eq_true_eq, decide_eq_false_iff_not, Bool.not_true, Bool.not_false, Bool.not_eq_true', Bool.not_eq_false'] at hc) <;> (try (exfalso; omega)))
            | (with_reducible refine and_i ?_ ?_; (· first | omega | assumption | (refine ⟨?_, ?_⟩ <;> (first | omega | assumption | (simp only [List.length_append, List.length_map, List.length_cons, List.length_nil] <;> omega))) | (refine ⟨?_, ?_, ?_⟩ <;> (first | omega | assumption | (simp only [List.length_append, List.length_map, List.length_cons, List.length_nil] <;> omega))) | (simp only [List.length_append, List.length_map, List.length_cons, List.length_nil] <;> omega)))
            | fail)
          all_goals simp [hz]
      · repeat' (first
          | (with_reducible refine hY _ ?_; clear hY Y)
          | ((with_reducible first | refine run_n rfl (runN fun K' hK' => todo ?_) | refine hK' _ (eqTo2 fun Y hY => todo ?_) | refine run_g rfl (eqTo2 fun Y hY => todo ?_) | refine eqTo2 fun Y hY => todo ?_ | refine runN fun K' hK' => todo ?_ | refine aw_regionB tk0 lv_trammel_trammelref12_Read (eqTo2 fun Y hY => todo ?_) | refine todo ?_ | refine qretT_r ?_ | refine draw_n rfl (drawN fun K' hK' => todo ?_) | refine hK' _ _ (eqTo2 fun Y hY => todo ?_) | refine draw_g rfl (eqTo2 fun Y hY => todo ?_) | refine drawN fun K' hK' => todo ?_ | refine qretT_n ?_); (try clear hK' K'); (try dsimp only [aop]); try simp only [go_sem, ↓reduceIte, Nat.reduceEqDiff, Nat.reduceLT, Nat.reduceLeDiff, Nat.reduceAdd, Nat.reduceSub, Nat.reduceMul, Nat.reduceBEq, Nat.reduceBNe, Nat.reducePow, Int.reduceToNat, Int.reduceLE, Int.reduceLT, Int.reduceMul, Int.reduceEq, Int.reducePow, Int.reduceAdd, Int.reduceSub, Int.reduceNeg, reduceCtorEq, lv_trammel_trammelref12_Read, Try.results13, hm1])
          | (with_reducible first | refine run_nil ?_ | refine guardG_n rfl ?_ | refine guardG_y ?_ | refine guardG_u ?_ | refine andD ?_ ?_ | refine then_n ?_ | refine aw_seq ?_ | refine regN fun K hK => ?_ | refine condV_t ?_ | refine condV_f ?_ | refine then_e ?_ | refine then_r ?_ | refine block_n ?_ | refine block_r ?_ | refine block_e ?_ | refine aw_block ?_ | refine aw_skip ?_ | refine aw_ret ?_ | refine aw_exit ?_ | refine aw_loop ?_ | refine aw_condc_t ?_ | refine aw_condc_f ?_ | refine draw_nil ?_ | refine regD fun K hK => ?_)
          | (with_reducible refine hK _ ?_; clear hK K)
          | (with_reducible refine hK _ _ ?_ ?_; (· kernel_rfl); clear hK K)
          | ((with_reducible first | refine gO_some ?_ ?_ | refine aw_condE ?_ ?_ | refine block_o ?_ ?_); (· decide))
          | (with_reducible refine aw_drawB tk0 lv_trammel_trammelref12_Read ?_ ?_; (· kernel_rfl))
          | ((with_reducible first | refine guardG_b (fun hc => ?_) (fun hc => ?_) | refine condV_b (fun hc => ?_) (fun hc => ?_)) <;> (try simp only [decide_eq_true_eq, decide_eq_false_iff_not, Bool.not_true, Bool.not_false, Bool.not_eq_true', Bool.not_eq_false'] at hc) <;> (try (exfalso; omega)))
          | (with_reducible refine and_i ?_ ?_; (· first | omega | assumption | (refine ⟨?_, ?_⟩ <;> (first | omega | assumption | (simp only [List.length_append, List.length_map, List.length_cons, List.length_nil] <;> omega))) | (refine ⟨?_, ?_, ?_⟩ <;> (first | omega | assumption | (simp only [List.length_append, List.length_map, List.length_cons, List.length_nil] <;> omega))) | (simp only [List.length_append, List.length_map, List.length_cons, List.length_nil] <;> omega)))
          | fail)
        all_goals simp
    · repeat' (first
        | (with_reducible refine hY _ ?_; clear hY Y)
        | ((with_reducible first | refine run_n rfl (runN fun K' hK' => todo ?_) | refine hK' _ (eqTo2 fun Y hY => todo ?_) | refine run_g rfl (eqTo2 fun Y hY => todo ?_) | refine eqTo2 fun Y hY => todo ?_ | refine runN fun K' hK' => todo ?_ | refine aw_regionB tk0 lv_trammel_trammelref12_Read (eqTo2 fun Y hY => todo ?_) | refine todo ?_ | refine qretT_r ?_ | refine draw_n rfl (drawN fun K' hK' => todo ?_) | refine hK' _ _ (eqTo2 fun Y hY => todo ?_) | refine draw_g rfl (eqTo2 fun Y hY => todo ?_) | refine drawN fun K' hK' => todo ?_ | refine qretT_n ?_); (try clear hK' K'); (try dsimp only [aop]); try simp only [go_sem, ↓reduceIte, Nat.reduceEqDiff, Nat.reduceLT, Nat.reduceLeDiff, Nat.reduceAdd, Nat.reduceSub, Nat.reduceMul, Nat.reduceBEq, Nat.reduceBNe, Nat.reducePow, Int.reduceToNat, Int.reduceLE, Int.reduceLT, Int.reduceMul, Int.reduceEq, Int.reducePow, Int.reduceAdd, Int.reduceSub, Int.reduceNeg, reduceCtorEq, lv_trammel_trammelref12_Read, Try.results13, hm1])
        | (with_reducible first | refine run_nil ?_ | refine guardG_n rfl ?_ | refine guardG_y ?_ | refine guardG_u ?_ | refine andD ?_ ?_ | refine then_n ?_ | refine aw_seq ?_ | refine regN fun K hK => ?_ | refine condV_t ?_ | refine condV_f ?_ | refine then_e ?_ | refine then_r ?_ | refine block_n ?_ | refine block_r ?_ | refine block_e ?_ | refine aw_block ?_ | refine aw_skip ?_ | refine aw_ret ?_ | refine aw_exit ?_ | refine aw_loop ?_ | refine aw_condc_t ?_ | refine aw_condc_f ?_ | refine draw_nil ?_ | refine regD fun K hK => ?_)
        | (with_reducible refine hK _ ?_; clear hK K)
        | (with_reducible refine hK _ _ ?_ ?_; (· kernel_rfl); clear hK K)
        | ((with_reducible first | refine gO_some ?_ ?_ | refine aw_condE ?_ ?_ | refine block_o ?_ ?_); (· decide))
        | (with_reducible refine aw_drawB tk0 lv_trammel_trammelref12_Read ?_ ?_; (· kernel_rfl))
        | ((with_reducible first | refine guardG_b (fun hc => ?_) (fun hc => ?_) | refine condV_b (fun hc => ?_) (fun hc => ?_)) <;> (try simp only [decide_eq_true_eq, decide_eq_false_iff_not, Bool.not_true, Bool.not_false, Bool.not_eq_true', Bool.not_eq_false'] at hc) <;> (try (exfalso; omega)))
        | (with_reducible refine and_i ?_ ?_; (· first | omega | assumption | (refine ⟨?_, ?_⟩ <;> (first | omega | assumption | (simp only [List.length_append, List.length_map, List.length_cons, List.length_nil] <;> omega))) | (refine ⟨?_, ?_, ?_⟩ <;> (first | omega | assumption | (simp only [List.length_append, List.length_map, List.length_cons, List.length_nil] <;> omega))) | (simp only [List.length_append, List.length_map, List.length_cons, List.length_nil] <;> omega)))
        | fail)
      all_goals simp
  obtain ⟨hn, rfl⟩ := hx
  have hn1 : (i : Int) < (n : Int) := by omega
  have hiw : IntKind.i64.wrap ((i : Int) + 1) = ((i + 1 : Nat) : Int) := wrap_i (a := i + 1) (by omega)
  have hI2 := li_step hI rfl (by omega)
  rw [show n - i - 1 = n - (i + 1) by omega] at hI2
  have hpr : recordR ⟨xs, false⟩ = (⟨(cutR (manyR ⟨xs, false⟩)).1, (severalR replyR (cutR (manyR ⟨xs, false⟩)).2).1⟩, (severalR replyR (cutR (manyR ⟨xs, false⟩)).2).2) := rfl
  rw [hpr] at hI2
  have hk1 := rManyR_k b ⟨xs, false⟩ hs' h8' hlen2
  have hkl := many_le ⟨xs, false⟩
  have h83 := Is8.suffix h8' (fwd_many ⟨xs, false⟩)
  have hs3 := (fwd_many ⟨xs, false⟩).trans hs'
  generalize manyR ⟨xs, false⟩ = q at *
  obtain ⟨k, ⟨ys, bad2⟩⟩ := q
  simp only at hk1 hkl h83 hs3
  have hcut : cutR (k, ⟨ys, bad2⟩) = (toText (ys.take k), ⟨ys.drop k, bad2⟩) := rfl
  rw [hcut] at hI2
  simp only at hI2
  have h84 : Is8 (ys.drop k) := h83.suffix (List.drop_suffix _ _)
  have hs4 : ys.drop k <:+ b := (List.drop_suffix _ _).trans hs3
  have h8t : Is8 (ys.take k) := fun x hx => h83 x (List.mem_of_mem_take hx)
  have hk2 := rManyR_k b ⟨ys.drop k, bad2⟩ hs4 h84 hlen2
  have hml2 := many_le ⟨ys.drop k, bad2⟩
  have hm82 := Is8.suffix h84 (fwd_many ⟨ys.drop k, bad2⟩)
  have hms2 := (fwd_many ⟨ys.drop k, bad2⟩).trans hs4
  have hm22 := hms2.length_le
  have hst2 := li_start replyR ⟨ys.drop k, bad2⟩
  generalize manyR ⟨ys.drop k, bad2⟩ = q at *
  obtain ⟨m, s4⟩ := q
  simp only at hk2 hml2 hm82 hms2 hm22 hst2
  have hyl := hs3.length_le
  obtain ⟨a, ha⟩ : ∃ a, a = b.length - ys.length := ⟨_, rfl⟩
  have ha2 : b.length - (ys.drop k).length = a + k := by rw [List.length_drop]; omega
  simp only [rrA, ← ha] at hk1
  simp only [rrA, ha2] at hk2
  obtain ⟨s3, hs3e⟩ : ∃ s3 : Rd, s3 = ⟨ys.drop k, bad2⟩ := ⟨_, rfl⟩
  rw [← hs3e] at hst2 hI2
  have hda : (b.map byteN).drop a = ys.map byteN := by rw [← List.map_drop, drop_suff hs3 ha]
  have htb : toBytes (List.take k (ys.map byteN)) = (ys.take k).map UInt8.ofNat := by rw [← List.map_take, toBytes_byteN]
  have hteq : List.take k (ys.map byteN) = ((ys.take k).map UInt8.ofNat).map byteA := by rw [← List.map_take, byteN_back h8t]
  have htl : k = (List.take k (ys.map byteN)).length := by simp; omega
  have hak : IntKind.i64.wrap ((a : Int) + (k : Int)) = ((a + k : Nat) : Int) := by rw [wrap_i64 (by omega) (by omega)]; omega
  have hdk : (((a + k : Nat) : Int) - (a : Int)).toNat = k := by omega
  have hb0 : (0 : Int) ≤ (a : Int) ∧ (a : Int) ≤ ((a + k : Nat) : Int) ∧ ((a + k : Nat) : Int) ≤ (b.length : Int) := by omega
  repeat' (first
    | (with_reducible refine hY _ ?_; clear hY Y)
    | ((with_reducible first | refine run_n rfl (runN fun K' hK' => todo ?_) | refine hK' _ (eqTo2 fun Y hY => todo ?_) | refine run_g rfl (eqTo2 fun Y hY => todo ?_) | refine eqTo2 fun Y hY => todo ?_ | refine runN fun K' hK' => todo ?_ | refine aw_regionB tk0 lv_trammel_trammelref12_Read (eqTo2 fun Y hY => todo ?_) | refine todo ?_ | refine qretT_r ?_ | refine draw_n rfl (drawN fun K' hK' => todo ?_) | refine hK' _ _ (eqTo2 fun Y hY => todo ?_) | refine draw_g rfl (eqTo2 fun Y hY => todo ?_) | refine drawN fun K' hK' => todo ?_ | refine qretT_n ?_); (try clear hK' K'); (try dsimp only [aop]); try simp only [go_sem, ↓reduceIte, Nat.reduceEqDiff, Nat.reduceLT, Nat.reduceLeDiff, Nat.reduceAdd, Nat.reduceSub, Nat.reduceMul, Nat.reduceBEq, Nat.reduceBNe, Nat.reducePow, Int.reduceToNat, Int.reduceLE, Int.reduceLT, Int.reduceMul, Int.reduceEq, Int.reducePow, Int.reduceAdd, Int.reduceSub, Int.reduceNeg, reduceCtorEq, lv_trammel_trammelref12_Read, Try.results13, hn1, hda, htb, hak, hdk])
    | (with_reducible first | refine run_nil ?_ | refine guardG_n rfl ?_ | refine guardG_y ?_ | refine guardG_u ?_ | refine andD ?_ ?_ | refine then_n ?_ | refine aw_seq ?_ | refine regN fun K hK => ?_ | refine condV_t ?_ | refine condV_f ?_ | refine then_e ?_ | refine then_r ?_ | refine block_n ?_ | refine block_r ?_ | refine block_e ?_ | refine aw_block ?_ | refine aw_skip ?_ | refine aw_ret ?_ | refine aw_exit ?_ | refine aw_loop ?_ | refine aw_condc_t ?_ | refine aw_condc_f ?_ | refine draw_nil ?_ | refine regD fun K hK => ?_)
    | (with_reducible refine hK _ ?_; clear hK K)
    | (with_reducible refine hK _ _ ?_ ?_; (· kernel_rfl); clear hK K)
    | ((with_reducible first | refine gO_some ?_ ?_ | refine aw_condE ?_ ?_ | refine block_o ?_ ?_); (· decide))
    | (with_reducible refine aw_drawB tk0 lv_trammel_trammelref12_Read ?_ ?_; (· kernel_rfl))
    | ((with_reducible first | refine guardG_b (fun hc => ?_) (fun hc => ?_) | refine condV_b (fun hc => ?_) (fun hc => ?_)) <;> (try simp only [decide_eq_true_eq, decide_eq_false_iff_not, Bool.not_true, Bool.not_false, Bool.not_eq_true', Bool.not_eq_false'] at hc) <;> (try (exfalso; omega)))
    | (with_reducible refine and_i ?_ ?_; (· first | omega | assumption | (refine ⟨?_, ?_⟩ <;> (first | omega | assumption | (simp only [List.length_append, List.length_map, List.length_cons, List.length_nil] <;> omega))) | (refine ⟨?_, ?_, ?_⟩ <;> (first | omega | assumption | (simp only [List.length_append, List.length_map, List.length_cons, List.length_nil] <;> omega))) | (simp only [List.length_append, List.length_map, List.length_cons, List.length_nil] <;> omega)))
    | (with_reducible refine ex_callT (hk1) ?_)
    | (with_reducible refine ex_callT (hk2) ?_)
    | fail)
  refine awl_le (ale_tokB (b := 10079) (k0 := 10008) (i := 1) 50 (by decide) (by decide) (by decide) rfl rfl rfl) ?_
  refine awl_ind (α := List ReplyD × Nat × Rd) (fun p => [(0, .sl (b.map byteN) b.length .none), (2, .loc 10002 0), (4, .loc 10018 0), (5, .loc 10005 0), (6, intA (n : Int)), (7, intA (i : Int)), (8, .loc 10008 0), (10, intA (m : Int)), (11, intA (p.2.1 : Int)), (10002, .bc [.sl [] 0 .full] 24), (10005, .bc [.sl (acc.flatMap recordA) acc.length (.tok 10085)] 24),
      (10008, .bc [.c (.string (toText (ys.take k))), .sl (p.1.flatMap replyA) p.1.length (.tok 10079)] 37), (10018, rrA b p.2.2), (10079, .bt p.1.length 50), (10085, .bt acc.length 37)])
    (fun p => LoopI replyR s3 p.1 (m - p.2.1) p.2.2 ∧ Is8 p.2.2.xs ∧ p.2.2.xs <:+ b ∧ p.1.length + (m - p.2.1) ≤ 4194304 ∧ p.2.1 ≤ m) (fun p => m - p.2.1) ([], 0, s4) [0, 2, 4, 5, 6, 7, 8, 10, 11] ?_ ⟨hst2, hm82, hms2, by (show 0 + m ≤ 4194304); omega, Nat.zero_le _⟩ ?_
  · simp only [go_sem, ↓reduceIte, Nat.reduceEqDiff, Nat.reduceLT, Nat.reduceLeDiff, Nat.reduceAdd, Nat.reduceSub, Nat.reduceMul, Nat.reduceBEq, Nat.reduceBNe, Nat.reducePow, Int.reduceToNat, Int.reduceLE, Int.reduceLT, Int.reduceMul, Int.reduceEq, Int.reducePow, Int.reduceAdd, Int.reduceSub, Int.reduceNeg, reduceCtorEq, List.set_cons_zero, List.set_cons_succ] <;> simp [intA, toText]
  generalize toText (ys.take k) = N at *
  rintro ⟨accA, j, ⟨zs, bad⟩⟩ ⟨hJ, h8'', hs'', hle2, hjm⟩ ih2
  simp only at ih2 hJ h8'' hs'' hle2 hjm ⊢
  simp only [intA, rrA]
  clear hk1 hk2
  by_cases hx : j < m ∧ bad = false
  case pos =>
    obtain ⟨hm, rfl⟩ := hx
    have hm1 : (j : Int) < (m : Int) := by omega
    have hjw : IntKind.i64.wrap ((j : Int) + 1) = ((j + 1 : Nat) : Int) := wrap_i (a := j + 1) (by omega)
    have hJ2 := li_step hJ rfl (by omega)
    rw [show m - j - 1 = m - (j + 1) by omega] at hJ2
    have hk1 := rReplyR_k b ⟨zs, false⟩ hs'' h8'' hlen2
    have h85 := Is8.suffix h8'' (fwd_reply ⟨zs, false⟩)
    have hs5 := (fwd_reply ⟨zs, false⟩).trans hs''
    generalize replyR ⟨zs, false⟩ = q1 at *
    obtain ⟨z1, s5⟩ := q1
    simp only at hk1 hJ2 h85 hs5
    repeat' (first
      | (with_reducible refine hY _ ?_; clear hY Y)
      | ((with_reducible first | refine run_n rfl (runN fun K' hK' => todo ?_) | refine hK' _ (eqTo2 fun Y hY => todo ?_) | refine run_g rfl (eqTo2 fun Y hY => todo ?_) | refine eqTo2 fun Y hY => todo ?_ | refine runN fun K' hK' => todo ?_ | refine aw_regionB tk0 lv_trammel_trammelref12_Read (eqTo2 fun Y hY => todo ?_) | refine todo ?_ | refine qretT_r ?_ | refine draw_n rfl (drawN fun K' hK' => todo ?_) | refine hK' _ _ (eqTo2 fun Y hY => todo ?_) | refine draw_g rfl (eqTo2 fun Y hY => todo ?_) | refine drawN fun K' hK' => todo ?_ | refine qretT_n ?_); (try clear hK' K'); (try dsimp only [aop]); try simp only [go_sem, ↓reduceIte, Nat.reduceEqDiff, Nat.reduceLT, Nat.reduceLeDiff, Nat.reduceAdd, Nat.reduceSub, Nat.reduceMul, Nat.reduceBEq, Nat.reduceBNe, Nat.reducePow, Int.reduceToNat, Int.reduceLE, Int.reduceLT, Int.reduceMul, Int.reduceEq, Int.reducePow, Int.reduceAdd, Int.reduceSub, Int.reduceNeg, reduceCtorEq, lv_trammel_trammelref12_Read, Try.results13, hm1, hjw, fm_len (f := replyA) (k := 3) (fun _ => rfl)])
      | (with_reducible first | refine run_nil ?_ | refine guardG_n rfl ?_ | refine guardG_y ?_ | refine guardG_u ?_ | refine andD ?_ ?_ | refine then_n ?_ | refine aw_seq ?_ | refine regN fun K hK => ?_ | refine condV_t ?_ | refine condV_f ?_ | refine then_e ?_ | refine then_r ?_ | refine block_n ?_ | refine block_r ?_ | refine block_e ?_ | refine aw_block ?_ | refine aw_skip ?_ | refine aw_ret ?_ | refine aw_exit ?_ | refine aw_loop ?_ | refine aw_condc_t ?_ | refine aw_condc_f ?_ | refine draw_nil ?_ | refine regD fun K hK => ?_)
      | (with_reducible refine hK _ ?_; clear hK K)
      | (with_reducible refine hK _ _ ?_ ?_; (· kernel_rfl); clear hK K)
      | ((with_reducible first | refine gO_some ?_ ?_ | refine aw_condE ?_ ?_ | refine block_o ?_ ?_); (· decide))
      | (with_reducible refine aw_drawB tk0 lv_trammel_trammelref12_Read ?_ ?_; (· kernel_rfl))
      | ((with_reducible first | refine guardG_b (fun hc => ?_) (fun hc => ?_) | refine condV_b (fun hc => ?_) (fun hc => ?_)) <;> (try simp only [decide_eq_true_eq, decide_eq_false_iff_not, Bool.not_true, Bool.not_false, Bool.not_eq_true', Bool.not_eq_false'] at hc) <;> (try (exfalso; omega)))
      | (with_reducible refine and_i ?_ ?_; (· first | omega | assumption | (refine ⟨?_, ?_⟩ <;> (first | omega | assumption | (simp only [List.length_append, List.length_map, List.length_cons, List.length_nil] <;> omega))) | (refine ⟨?_, ?_, ?_⟩ <;> (first | omega | assumption | (simp only [List.length_append, List.length_map, List.length_cons, List.length_nil] <;> omega))) | (simp only [List.length_append, List.length_map, List.length_cons, List.length_nil] <;> omega)))
      | (with_reducible refine ex_callT (hk1) ?_)
      | fail)
    refine awl_keep [0, 2, 4, 5, 6, 7, 8, 10, 11] (by simp only [go_sem, ↓reduceIte, Nat.reduceEqDiff, Nat.reduceLT, Nat.reduceLeDiff, Nat.reduceAdd, Nat.reduceSub, Nat.reduceMul, Nat.reduceBEq, Nat.reduceBNe, Nat.reducePow, Int.reduceToNat, Int.reduceLE, Int.reduceLT, Int.reduceMul, Int.reduceEq, Int.reducePow, Int.reduceAdd, Int.reduceSub, Int.reduceNeg, reduceCtorEq]; exact rfl) ?_
    refine awl_eq (ih2 (accA ++ [z1], j + 1, s5) ⟨hJ2, h85, hs5, (by simp only [List.length_append, List.length_cons, List.length_nil]; omega), (by simp only; omega)⟩ (by simp only; omega)) ?_
    simp [intA, rrA]
  have hr : severalR replyR s3 = (accA, ⟨zs, bad⟩) := by
    by_cases hm : j < m
    · cases bad
      · exact absurd ⟨hm, rfl⟩ hx
      · exact li_bad hJ rfl
    · exact li_zero hJ (by omega)
  rw [hr] at hI2
  simp only at hI2
  clear ih2
  have hx' : (¬ (j : Int) < (m : Int)) ∨ ((j : Int) < (m : Int) ∧ bad = true) := by
    by_cases hm : j < m
    · cases bad
      · exact absurd ⟨hm, rfl⟩ hx
      · exact .inr ⟨by omega, rfl⟩
    · exact .inl (by omega)
  rcases hx' with hm1 | ⟨hm1, rfl⟩
  all_goals
    repeat' (first
      | (with_reducible refine hY _ ?_; clear hY Y)
      | ((with_reducible first | refine run_n rfl (runN fun K' hK' => todo ?_) | refine hK' _ (eqTo2 fun Y hY => todo ?_) | refine run_g rfl (eqTo2 fun Y hY => todo ?_) | refine eqTo2 fun Y hY => todo ?_ | refine runN fun K' hK' => todo ?_ | refine aw_regionB tk0 lv_trammel_trammelref12_Read (eqTo2 fun Y hY => todo ?_) | refine todo ?_ | refine qretT_r ?_ | refine draw_n rfl (drawN fun K' hK' => todo ?_) | refine hK' _ _ (eqTo2 fun Y hY => todo ?_) | refine draw_g rfl (eqTo2 fun Y hY => todo ?_) | refine drawN fun K' hK' => todo ?_ | refine qretT_n ?_); (try clear hK' K'); (try dsimp only [aop]); try simp only [go_sem, ↓reduceIte, Nat.reduceEqDiff, Nat.reduceLT, Nat.reduceLeDiff, Nat.reduceAdd, Nat.reduceSub, Nat.reduceMul, Nat.reduceBEq, Nat.reduceBNe, Nat.reducePow, Int.reduceToNat, Int.reduceLE, Int.reduceLT, Int.reduceMul, Int.reduceEq, Int.reducePow, Int.reduceAdd, Int.reduceSub, Int.reduceNeg, reduceCtorEq, lv_trammel_trammelref12_Read, Try.results13, hm1, hiw, fm_len (f := recordA) (k := 2) (fun _ => rfl)])
      | (with_reducible first | refine run_nil ?_ | refine guardG_n rfl ?_ | refine guardG_y ?_ | refine guardG_u ?_ | refine andD ?_ ?_ | refine then_n ?_ | refine aw_seq ?_ | refine regN fun K hK => ?_ | refine condV_t ?_ | refine condV_f ?_ | refine then_e ?_ | refine then_r ?_ | refine block_n ?_ | refine block_r ?_ | refine block_e ?_ | refine aw_block ?_ | refine aw_skip ?_ | refine aw_ret ?_ | refine aw_exit ?_ | refine aw_loop ?_ | refine aw_condc_t ?_ | refine aw_condc_f ?_ | refine draw_nil ?_ | refine regD fun K hK => ?_)
      | (with_reducible refine hK _ ?_; clear hK K)
      | (with_reducible refine hK _ _ ?_ ?_; (· kernel_rfl); clear hK K)
      | ((with_reducible first | refine gO_some ?_ ?_ | refine aw_condE ?_ ?_ | refine block_o ?_ ?_); (· decide))
      | (with_reducible refine aw_drawB tk0 lv_trammel_trammelref12_Read ?_ ?_; (· kernel_rfl))
      | ((with_reducible first | refine guardG_b (fun hc => ?_) (fun hc => ?_) | refine condV_b (fun hc => ?_) (fun hc => ?_)) <;> (try simp only [decide_eq_true_eq, decide_eq_false_iff_not, Bool.not_true, Bool.not_false, Bool.not_eq_true', Bool.not_eq_false'] at hc) <;> (try (exfalso; omega)))
      | (with_reducible refine and_i ?_ ?_; (· first | omega | assumption | (refine ⟨?_, ?_⟩ <;> (first | omega | assumption | (simp only [List.length_append, List.length_map, List.length_cons, List.length_nil] <;> omega))) | (refine ⟨?_, ?_, ?_⟩ <;> (first | omega | assumption | (simp only [List.length_append, List.length_map, List.length_cons, List.length_nil] <;> omega))) | (simp only [List.length_append, List.length_map, List.length_cons, List.length_nil] <;> omega)))
      | fail)
    refine awl_keep [0, 2, 4, 5, 6, 7] (by simp only [go_sem, ↓reduceIte, Nat.reduceEqDiff, Nat.reduceLT, Nat.reduceLeDiff, Nat.reduceAdd, Nat.reduceSub, Nat.reduceMul, Nat.reduceBEq, Nat.reduceBNe, Nat.reducePow, Int.reduceToNat, Int.reduceLE, Int.reduceLT, Int.reduceMul, Int.reduceEq, Int.reducePow, Int.reduceAdd, Int.reduceSub, Int.reduceNeg, reduceCtorEq]; exact rfl) ?_
    refine awl_eq (ih (acc ++ [⟨N, accA⟩], i + 1, ⟨zs, _⟩) ⟨hI2, h8'', hs'', (by simp only [List.length_append, List.length_cons, List.length_nil]; omega), (by simp only; omega)⟩ (by simp only; omega)) ?_
    simp [intA, rrA]
end Go.Proofs.Ytfalmbbcdagbiaa
