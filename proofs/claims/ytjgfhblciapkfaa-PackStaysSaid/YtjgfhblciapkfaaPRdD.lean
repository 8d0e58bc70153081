/- pack.Read in K. -/
import Derived.Test.YtjgfhblciapkfaaPRdC
import Derived.Test.YtjgfhblciapkfaaCode
namespace Go.Proofs.Ytjgfhblciapkfaa
set_option linter.unusedSimpArgs false
set_option linter.unusedVariables false
open Go.RowKit
def readA (p : List RecordD × Nat) : AV := .tup [.agg [recordsA p.1], codeA p.2]
theorem toBytes_byteN : ∀ l : List Nat, toBytes (l.map byteN) = l.map UInt8.ofNat
  | [] => rfl
  | b :: l => by simp only [List.map_cons, toBytes, byteN, toBytes_byteN l, Int.toNat_natCast]
theorem byteN_back {l : List Nat} (h : Is8 l) : l.map byteN = (l.map UInt8.ofNat).map byteA := by
  rw [List.map_map]
  refine List.map_congr_left fun b hb => ?_
  have := h b hb
  simp [byteN, byteA, Nat.mod_eq_of_lt this]
def lv_trammel_pack_Read : Nat → List Nat
  | 0 => [0]
  | 1 => [0, 2]
  | 2 => [2]
  | 3 => [0, 2]
  | 4 => [2, 4]
  | 5 => [2, 4, 5]
  | 6 => [2, 4, 5, 6]
  | 7 => [2, 4, 5, 6]
  | 8 => [2, 4, 5, 6]
  | 9 => [2, 4, 5, 6, 7]
  | 10 => [2, 4, 5, 6, 7, 8]
  | 11 => [2, 4, 5, 6, 8]
  | 12 => [2, 4, 5, 6, 8, 9]
  | 13 => [2, 4, 5, 6, 8, 9]
  | 14 => [2, 4, 5, 6, 8, 9]
  | 15 => [2, 4, 5, 6, 8]
  | 16 => [2, 4, 5]
  | 17 => [2]
  | 18 => [2, 4, 5]
  | 19 => [2]
  | 20 => [2, 5]
  | _ => []
set_option maxRecDepth 100000 in
set_option maxHeartbeats 8000000 in
theorem read_k (b : List Nat) (h8 : Is8 b) (hbl : b.length ≤ 140737488355328) : AFn Try.prog 6 [.sl (b.map byteN) b.length .none] [] (readA (readR b)) [] := by
  unfold readR
  by_cases hlen : 4194304 < b.length
  case pos =>
    rw [if_pos hlen]
    refine afn_wk (r := .tup [.agg [.sl [] 0 .full], .ifc 47 (.c (.int .i64 2))]) ?_ 4 (by simp [wkA, readA, codeA])
    refine afn_of [] Try.func6 rfl Try.ntmps6 (Nat.le_of_ble_eq_true rfl) (Nat.le_of_ble_eq_true rfl) fun w0 G0 B0 Pr hB0 => ?_
    simp only [start, argMap, List.cons_append, List.nil_append]
    have hl1 : (4194304 : Int) < (b.length : Int) := by omega
    repeat' (first
      | (with_reducible refine hY _ ?_; clear hY Y)
      | ((with_reducible first | refine run_n rfl (runN fun K' hK' => todo ?_) | refine hK' _ (eqTo2 fun Y hY => todo ?_) | refine run_g rfl (eqTo2 fun Y hY => todo ?_) | refine eqTo2 fun Y hY => todo ?_ | refine runN fun K' hK' => todo ?_ | refine aw_regionB tk0 lv_trammel_pack_Read (eqTo2 fun Y hY => todo ?_) | refine todo ?_ | refine qretT_r ?_ | refine draw_n rfl (drawN fun K' hK' => todo ?_) | refine hK' _ _ (eqTo2 fun Y hY => todo ?_) | refine draw_g rfl (eqTo2 fun Y hY => todo ?_) | refine drawN fun K' hK' => todo ?_ | refine qretT_n ?_); (try clear hK' K'); (try dsimp only [aop]); try simp only [go_sem, ↓reduceIte, Nat.reduceEqDiff, Nat.reduceLT, Nat.reduceLeDiff, Nat.reduceAdd, Nat.reduceSub, Nat.reduceMul, Nat.reduceBEq, Nat.reduceBNe, Nat.reducePow, Int.reduceToNat, Int.reduceLE, Int.reduceLT, Int.reduceMul, Int.reduceEq, Int.reducePow, Int.reduceAdd, Int.reduceSub, Int.reduceNeg, reduceCtorEq, lv_trammel_pack_Read, Try.results6, hl1])
      | (with_reducible first | refine run_nil ?_ | refine guardG_n rfl ?_ | refine guardG_y ?_ | refine guardG_u ?_ | refine andD ?_ ?_ | refine then_n ?_ | refine aw_seq ?_ | refine regN fun K hK => ?_ | refine condV_t ?_ | refine condV_f ?_ | refine then_e ?_ | refine then_r ?_ | refine block_n ?_ | refine block_r ?_ | refine block_e ?_ | refine aw_block ?_ | refine aw_skip ?_ | refine aw_ret ?_ | refine aw_exit ?_ | refine aw_loop ?_ | refine aw_condc_t ?_ | refine aw_condc_f ?_ | refine draw_nil ?_ | refine regD fun K hK => ?_)
      | (with_reducible refine hK _ ?_; clear hK K)
      | (with_reducible refine hK _ _ ?_ ?_; (· kernel_rfl); clear hK K)
      | ((with_reducible first | refine gO_some ?_ ?_ | refine aw_condE ?_ ?_ | refine block_o ?_ ?_); (· decide))
      | (with_reducible refine aw_drawB tk0 lv_trammel_pack_Read ?_ ?_; (· kernel_rfl))
      | ((with_reducible first | refine guardG_b (fun hc => ?_) (fun hc => ?_) | refine condV_b (fun hc => ?_) (fun hc => ?_)) <;> (try simp only [decide_eq_true_eq, decide_eq_false_iff_not, Bool.not_true, Bool.not_false, Bool.not_eq_true', Bool.not_eq_false'] at hc) <;> (try (exfalso; omega)))
      | (with_reducible refine and_i ?_ ?_; (· first | omega | assumption | (refine ⟨?_, ?_⟩ <;> (first | omega | assumption | (simp only [List.length_append, List.length_map, List.length_cons, List.length_nil] <;> omega))) | (refine ⟨?_, ?_, ?_⟩ <;> (first | omega | assumption | (simp only [List.length_append, List.length_map, List.length_cons, List.length_nil] <;> omega))) | (simp only [List.length_append, List.length_map, List.length_cons, List.length_nil] <;> omega)))
      | (with_reducible refine ex_seal ?_)
      | fail)
  rw [if_neg hlen]
  have hl1 : ¬ (4194304 : Int) < (b.length : Int) := by omega
  have hmk := manyR_k ⟨b, false⟩ h8
  have hml := many_le ⟨b, false⟩
  have hm8 := Is8.suffix h8 (fwd_many ⟨b, false⟩)
  have hm2 := (fwd_many ⟨b, false⟩).length_le
  have hst := li_start recordR ⟨b, false⟩
  simp only at hm2
  have hraw : ∃ r0, wkA 4 r0 = readA (if (severalR recordR ⟨b, false⟩).2.bad = true then ([], 5) else if 0 < (severalR recordR ⟨b, false⟩).2.xs.length then ([], 16) else ((severalR recordR ⟨b, false⟩).1, 0)) ∧
      r0 = if (severalR recordR ⟨b, false⟩).2.bad = true then .tup [.agg [.sl [] 0 .full], .ifc 47 (.c (.int .i64 5))] else if 0 < (severalR recordR ⟨b, false⟩).2.xs.length then .tup [.agg [.sl [] 0 .full], .ifc 47 (.c (.int .i64 16))]
        else .tup [.agg [recordsA (severalR recordR ⟨b, false⟩).1], .c .nilIface] := by
    refine ⟨_, ?_, rfl⟩
    split
    · simp [wkA, readA, codeA]
    · split
      · simp [wkA, readA, codeA]
      · simp [wkA, readA, codeA]
  obtain ⟨r0, hr0, hr1⟩ := hraw
  refine afn_wk (r := r0) ?_ 4 hr0
  clear hr0
  refine afn_of [] Try.func6 rfl Try.ntmps6 (Nat.le_of_ble_eq_true rfl) (Nat.le_of_ble_eq_true rfl) fun w0 G0 B0 Pr hB0 => ?_
  simp only [start, argMap, List.cons_append, List.nil_append]
  generalize manyR ⟨b, false⟩ = q at *
  obtain ⟨n0, s1⟩ := q
  simp only at hmk hml hm8 hm2 hst
  obtain ⟨s0, hs0⟩ : ∃ s0 : Rd, s0 = ⟨b, false⟩ := ⟨_, rfl⟩
  rw [← hs0] at hst hr1
  repeat' (first
    | (with_reducible refine hY _ ?_; clear hY Y)
    | ((with_reducible first | refine run_n rfl (runN fun K' hK' => todo ?_) | refine hK' _ (eqTo2 fun Y hY => todo ?_) | refine run_g rfl (eqTo2 fun Y hY => todo ?_) | refine eqTo2 fun Y hY => todo ?_ | refine runN fun K' hK' => todo ?_ | refine aw_regionB tk0 lv_trammel_pack_Read (eqTo2 fun Y hY => todo ?_) | refine todo ?_ | refine qretT_r ?_ | refine draw_n rfl (drawN fun K' hK' => todo ?_) | refine hK' _ _ (eqTo2 fun Y hY => todo ?_) | refine draw_g rfl (eqTo2 fun Y hY => todo ?_) | refine drawN fun K' hK' => todo ?_ | refine qretT_n ?_); (try clear hK' K'); (try dsimp only [aop]); try simp only [go_sem, ↓reduceIte, Nat.reduceEqDiff, Nat.reduceLT, Nat.reduceLeDiff, Nat.reduceAdd, Nat.reduceSub, Nat.reduceMul, Nat.reduceBEq, Nat.reduceBNe, Nat.reducePow, Int.reduceToNat, Int.reduceLE, Int.reduceLT, Int.reduceMul, Int.reduceEq, Int.reducePow, Int.reduceAdd, Int.reduceSub, Int.reduceNeg, reduceCtorEq, lv_trammel_pack_Read, Try.results6, hl1])
    | (with_reducible first | refine run_nil ?_ | refine guardG_n rfl ?_ | refine guardG_y ?_ | refine guardG_u ?_ | refine andD ?_ ?_ | refine then_n ?_ | refine aw_seq ?_ | refine regN fun K hK => ?_ | refine condV_t ?_ | refine condV_f ?_ | refine then_e ?_ | refine then_r ?_ | refine block_n ?_ | refine block_r ?_ | refine block_e ?_ | refine aw_block ?_ | refine aw_skip ?_ | refine aw_ret ?_ | refine aw_exit ?_ | refine aw_loop ?_ | refine aw_condc_t ?_ | refine aw_condc_f ?_ | refine draw_nil ?_ | refine regD fun K hK => ?_)
    | (with_reducible refine hK _ ?_; clear hK K)
    | (with_reducible refine hK _ _ ?_ ?_; (· kernel_rfl); clear hK K)
    | ((with_reducible first | refine gO_some ?_ ?_ | refine aw_condE ?_ ?_ | refine block_o ?_ ?_); (· decide))
    | (with_reducible refine aw_drawB tk0 lv_trammel_pack_Read ?_ ?_; (· kernel_rfl))
    | ((with_reducible first | refine guardG_b (fun hc => ?_) (fun hc => ?_) | refine condV_b (fun hc => ?_) (fun hc => ?_)) <;> (try simp only [decide_eq_true_eq, decide_eq_false_iff_not, Bool.not_true, Bool.not_false, Bool.not_eq_true', Bool.not_eq_false'] at hc) <;> (try (exfalso; omega)))
    | (with_reducible refine and_i ?_ ?_; (· first | omega | assumption | (refine ⟨?_, ?_⟩ <;> (first | omega | assumption | (simp only [List.length_append, List.length_map, List.length_cons, List.length_nil] <;> omega))) | (refine ⟨?_, ?_, ?_⟩ <;> (first | omega | assumption | (simp only [List.length_append, List.length_map, List.length_cons, List.length_nil] <;> omega))) | (simp only [List.length_append, List.length_map, List.length_cons, List.length_nil] <;> omega)))
    | (with_reducible refine ex_callT (hmk) ?_)
    | (with_reducible refine ex_seal ?_)
    | fail)
  refine awl_le (ale_tokB (b := 10074) (k0 := 10005) (i := 0) 46 (by decide) (by decide) (by decide) rfl rfl rfl) ?_
  refine awl_ind (α := List RecordD × Nat × Rd) (fun p => [(2, .loc 10002 0), (4, .loc 10017 0), (5, .loc 10005 0), (6, intA (p.2.1 : Int)), (10002, .bc [.sl [] 0 .full] 25), (10005, .bc [.sl (p.1.flatMap recordA) p.1.length (.tok 10074)] 25), (10017, rdA p.2.2), (10074, .bt p.1.length 46)])
    (fun p => LoopI recordR s0 p.1 p.2.1 p.2.2 ∧ Is8 p.2.2.xs ∧ p.1.length + p.2.1 ≤ 4194304 ∧ p.2.2.xs.length ≤ 4194304) (fun p => p.2.1) ([], n0, s1) [2, 4, 5, 6] ?_ ⟨hst, hm8, by (show 0 + n0 ≤ 4194304); omega, by simp only; omega⟩ ?_
  · simp only [go_sem, ↓reduceIte, Nat.reduceEqDiff, Nat.reduceLT, Nat.reduceLeDiff, Nat.reduceAdd, Nat.reduceSub, Nat.reduceMul, Nat.reduceBEq, Nat.reduceBNe, Nat.reducePow, Int.reduceToNat, Int.reduceLE, Int.reduceLT, Int.reduceMul, Int.reduceEq, Int.reducePow, Int.reduceAdd, Int.reduceSub, Int.reduceNeg, reduceCtorEq, List.set_cons_zero, List.set_cons_succ] <;> simp [intA]
  rintro ⟨acc, n, ⟨xs, bad⟩⟩ ⟨hI, h8', hle, hxl⟩ ih
  simp only at ih hI h8' hle hxl ⊢
  simp only [intA, rdA]
  by_cases hx : 0 < n ∧ bad = false
  case neg =>
    have hr : severalR recordR s0 = (acc, ⟨xs, bad⟩) := by
      by_cases hm : 0 < n
      · cases bad
        · exact absurd ⟨hm, rfl⟩ hx
        · exact li_bad hI rfl
      · exact li_zero hI (by omega)
    rw [hr] at hr1
    simp only at hr1
    subst hr1
    clear hr ih hI hst
    have hx' : (¬ (0 : Int) < (n : Int)) ∨ ((0 : Int) < (n : Int) ∧ bad = true) := by
      by_cases hm : 0 < n
      · cases bad
        · exact absurd ⟨hm, rfl⟩ hx
        · exact .inr ⟨by omega, rfl⟩
      · exact .inl (by omega)
    rcases hx' with hm1 | ⟨hm1, rfl⟩
    · cases bad
      · by_cases hz : 0 < xs.length
        · have hz1 : (0 : Int) < (xs.length : Int) := by omega
          repeat' (first
            | (with_reducible refine hY _ ?_; clear hY Y)
            | ((with_reducible first | refine run_n rfl (runN fun K' hK' => todo ?_) | refine hK' _ (eqTo2 fun Y hY => todo ?_) | refine run_g rfl (eqTo2 fun Y hY => todo ?_) | refine eqTo2 fun Y hY => todo ?_ | refine runN fun K' hK' => todo ?_ | refine aw_regionB tk0 lv_trammel_pack_Read (eqTo2 fun Y hY => todo ?_) | refine todo ?_ | refine qretT_r ?_ | refine draw_n rfl (drawN fun K' hK' => todo ?_) | refine hK' _ _ (eqTo2 fun Y hY => todo ?_) | refine draw_g rfl (eqTo2 fun Y hY => todo ?_) | refine drawN fun K' hK' => todo ?_ | refine qretT_n ?_); (try clear hK' K'); (try dsimp only [aop]); try simp only [go_sem, ↓reduceIte, Nat.reduceEqDiff, Nat.reduceLT, Nat.reduceLeDiff, Nat.reduceAdd, Nat.reduceSub, Nat.reduceMul, Nat.reduceBEq, Nat.reduceBNe, Nat.reducePow, Int.reduceToNat, Int.reduceLE, Int.reduceLT, Int.reduceMul, Int.reduceEq, Int.reducePow, Int.reduceAdd, Int.reduceSub, Int.reduceNeg, reduceCtorEq, lv_trammel_pack_Read, Try.results6, hm1, hz1])
            | (with_reducible first | refine run_nil ?_ | refine guardG_n rfl ?_ | refine guardG_y ?_ | refine guardG_u ?_ | refine andD ?_ ?_ | refine then_n ?_ | refine aw_seq ?_ | refine regN fun K hK => ?_ | refine condV_t ?_ | refine condV_f ?_ | refine then_e ?_ | refine then_r ?_ | refine block_n ?_ | refine block_r ?_ | refine block_e ?_ | refine aw_block ?_ | refine aw_skip ?_ | refine aw_ret ?_ | refine aw_exit ?_ | refine aw_loop ?_ | refine aw_condc_t ?_ | refine aw_condc_f ?_ | refine draw_nil ?_ | refine regD fun K hK => ?_)
            | (with_reducible refine hK _ ?_; clear hK K)
            | (with_reducible refine hK _ _ ?_ ?_; (· kernel_rfl); clear hK K)
            | ((with_reducible first | refine gO_some ?_ ?_ | refine aw_condE ?_ ?_ | refine block_o ?_ ?_); (· decide))
            | (with_reducible refine aw_drawB tk0 lv_trammel_pack_Read ?_ ?_; (· kernel_rfl))
            | ((with_reducible first | refine guardG_b (fun hc => ?_) (fun hc => ?_) | refine condV_b (fun hc => ?_) (fun hc => ?_)) <;> (try simp only [decide_eq_true_eq, decide_eq_false_iff_not, Bool.not_true, Bool.not_false, Bool.not_eq_true', Bool.not_eq_false'] at hc) <;> (try (exfalso; omega)))
            | (with_reducible refine and_i ?_ ?_; (· first | omega | assumption | (refine ⟨?_, ?_⟩ <;> (first | omega | assumption | (simp only [List.length_append, List.length_map, List.length_cons, List.length_nil] <;> omega))) | (refine ⟨?_, ?_, ?_⟩ <;> (first | omega | assumption | (simp only [List.length_append, List.length_map, List.length_cons, List.length_nil] <;> omega))) | (simp only [List.length_append, List.length_map, List.length_cons, List.length_nil] <;> omega)))
            | (with_reducible refine ex_seal ?_)
            | fail)
          all_goals simp [hz]
        · have hz1 : ¬ (0 : Int) < (xs.length : Int) := by omega
          repeat' (first
            | (with_reducible refine hY _ ?_; clear hY Y)
            | ((with_reducible first | refine run_n rfl (runN fun K' hK' => todo ?_) | refine hK' _ (eqTo2 fun Y hY => todo ?_) | refine run_g rfl (eqTo2 fun Y hY => todo ?_) | refine eqTo2 fun Y hY => todo ?_ | refine runN fun K' hK' => todo ?_ | refine aw_regionB tk0 lv_trammel_pack_Read (eqTo2 fun Y hY => todo ?_) | refine todo ?_ | refine qretT_r ?_ | refine draw_n rfl (drawN fun K' hK' => todo ?_) | refine hK' _ _ (eqTo2 fun Y hY => todo ?_) | refine draw_g rfl (eqTo2 fun Y hY => todo ?_) | refine drawN fun K' hK' => todo ?_ | refine qretT_n ?_); (try clear hK' K'); (try dsimp only [aop]); try simp only [go_sem, ↓reduceIte, Nat.reduceEqDiff, Nat.reduceLT, Nat.reduceLeDiff, Nat.reduceAdd, Nat.reduceSub, Nat.reduceMul, Nat.reduceBEq, Nat.reduceBNe, Nat.reducePow, Int.reduceToNat, Int.reduceLE, Int.reduceLT, Int.reduceMul, Int.reduceEq, Int.reducePow, Int.reduceAdd, Int.reduceSub, Int.reduceNeg, reduceCtorEq, lv_trammel_pack_Read, Try.results6, hm1, hz1])
            | (with_reducible first | refine run_nil ?_ | refine guardG_n rfl ?_ | refine guardG_y ?_ | refine guardG_u ?_ | refine andD ?_ ?_ | refine then_n ?_ | refine aw_seq ?_ | refine regN fun K hK => ?_ | refine condV_t ?_ | refine condV_f ?_ | refine then_e ?_ | refine then_r ?_ | refine block_n ?_ | refine block_r ?_ | refine block_e ?_ | refine aw_block ?_ | refine aw_skip ?_ | refine aw_ret ?_ | refine aw_exit ?_ | refine aw_loop ?_ | refine aw_condc_t ?_ | refine aw_condc_f ?_ | refine draw_nil ?_ | refine regD fun K hK => ?_)
            | (with_reducible refine hK _ ?_; clear hK K)
            | (with_reducible refine hK _ _ ?_ ?_; (· kernel_rfl); clear hK K)
            | ((with_reducible first | refine gO_some ?_ ?_ | refine aw_condE ?_ ?_ | refine block_o ?_ ?_); (· decide))
            | (with_reducible refine aw_drawB tk0 lv_trammel_pack_Read ?_ ?_; (· kernel_rfl))
            | ((with_reducible first | refine guardG_b (fun hc => ?_) (fun hc => ?_) | refine condV_b (fun hc => ?_) (fun hc => ?_)) <;> (try simp only [decide_eq_true_eq, decide_eq_false_iff_not, Bool.not_true, Bool.not_false, Bool.not_eq_true', Bool.not_eq_false'] at hc) <;> (try (exfalso; omega)))
            | (with_reducible refine and_i ?_ ?_; (· first | omega | assumption | (refine ⟨?_, ?_⟩ <;> (first | omega | assumption | (simp only [List.length_append, List.length_map, List.length_cons, List.length_nil] <;> omega))) | (refine ⟨?_, ?_, ?_⟩ <;> (first | omega | assumption | (simp only [List.length_append, List.length_map, List.length_cons, List.length_nil] <;> omega))) | (simp only [List.length_append, List.length_map, List.length_cons, List.length_nil] <;> omega)))
            | (with_reducible refine ex_seal ?_)
            | fail)
          all_goals simp [hz]
      · repeat' (first
          | (with_reducible refine hY _ ?_; clear hY Y)
          | ((with_reducible first | refine run_n rfl (runN fun K' hK' => todo ?_) | refine hK' _ (eqTo2 fun Y hY => todo ?_) | refine run_g rfl (eqTo2 fun Y hY => todo ?_) | refine eqTo2 fun Y hY => todo ?_ | refine runN fun K' hK' => todo ?_ | refine aw_regionB tk0 lv_trammel_pack_Read (eqTo2 fun Y hY => todo ?_) | refine todo ?_ | refine qretT_r ?_ | refine draw_n rfl (drawN fun K' hK' => todo ?_) | refine hK' _ _ (eqTo2 fun Y hY => todo ?_) | refine draw_g rfl (eqTo2 fun Y hY => todo ?_) | refine drawN fun K' hK' => todo ?_ | refine qretT_n ?_); (try clear hK' K'); (try dsimp only [aop]); try simp only [go_sem, ↓reduceIte, Nat.reduceEqDiff, Nat.reduceLT, Nat.reduceLeDiff, Nat.reduceAdd, Nat.reduceSub, Nat.reduceMul, Nat.reduceBEq, Nat.reduceBNe, Nat.reducePow, Int.reduceToNat, Int.reduceLE, Int.reduceLT, Int.reduceMul, Int.reduceEq, Int.reducePow, Int.reduceAdd, Int.reduceSub, Int.reduceNeg, reduceCtorEq, lv_trammel_pack_Read, Try.results6, hm1])
          | (with_reducible first | refine run_nil ?_ | refine guardG_n rfl ?_ | refine guardG_y ?_ | refine guardG_u ?_ | refine andD ?_ ?_ | refine then_n ?_ | refine aw_seq ?_ | refine regN fun K hK => ?_ | refine condV_t ?_ | refine condV_f ?_ | refine then_e ?_ | refine then_r ?_ | refine block_n ?_ | refine block_r ?_ | refine block_e ?_ | refine aw_block ?_ | refine aw_skip ?_ | refine aw_ret ?_ | refine aw_exit ?_ | refine aw_loop ?_ | refine aw_condc_t ?_ | refine aw_condc_f ?_ | refine draw_nil ?_ | refine regD fun K hK => ?_)
          | (with_reducible refine hK _ ?_; clear hK K)
          | (with_reducible refine hK _ _ ?_ ?_; (· kernel_rfl); clear hK K)
          | ((with_reducible first | refine gO_some ?_ ?_ | refine aw_condE ?_ ?_ | refine block_o ?_ ?_); (· decide))
          | (with_reducible refine aw_drawB tk0 lv_trammel_pack_Read ?_ ?_; (· kernel_rfl))
          | ((with_reducible first | refine guardG_b (fun hc => ?_) (fun hc => ?_) | refine condV_b (fun hc => ?_) (fun hc => ?_)) <;> (try simp only [decide_eq_true_eq, decide_eq_false_iff_not, Bool.not_true, Bool.not_false, Bool.not_eq_true', Bool.not_eq_false'] at hc) <;> (try (exfalso; omega)))
          | (with_reducible refine and_i ?_ ?_; (· first | omega | assumption | (refine ⟨?_, ?_⟩ <;> (first | omega | assumption | (simp only [List.length_append, List.length_map, List.length_cons, List.length_nil] <;> omega))) | (refine ⟨?_, ?_, ?_⟩ <;> (first | omega | assumption | (simp only [List.length_append, List.length_map, List.length_cons, List.length_nil] <;> omega))) | (simp only [List.length_append, List.length_map, List.length_cons, List.length_nil] <;> omega)))
          | (with_reducible refine ex_seal ?_)
          | fail)
        all_goals simp
    · repeat' (first
        | (with_reducible refine hY _ ?_; clear hY Y)
        | ((with_reducible first | refine run_n rfl (runN fun K' hK' => todo ?_) | refine hK' _ (eqTo2 fun Y hY => todo ?_) | refine run_g rfl (eqTo2 fun Y hY => todo ?_) | refine eqTo2 fun Y hY => todo ?_ | refine runN fun K' hK' => todo ?_ | refine aw_regionB tk0 lv_trammel_pack_Read (eqTo2 fun Y hY => todo ?_) | refine todo ?_ | refine qretT_r ?_ | refine draw_n rfl (drawN fun K' hK' => todo ?_) | refine hK' _ _ (eqTo2 fun Y hY => todo ?_) | refine draw_g rfl (eqTo2 fun Y hY => todo ?_) | refine drawN fun K' hK' => todo ?_ | refine qretT_n ?_); (try clear hK' K'); (try dsimp only [aop]); try simp only [go_sem, ↓reduceIte, Nat.reduceEqDiff, Nat.reduceLT, Nat.reduceLeDiff, Nat.reduceAdd, Nat.reduceSub, Nat.reduceMul, Nat.reduceBEq, Nat.reduceBNe, Nat.reducePow, Int.reduceToNat, Int.reduceLE, Int.reduceLT, Int.reduceMul, Int.reduceEq, Int.reducePow, Int.reduceAdd, Int.reduceSub, Int.reduceNeg, reduceCtorEq, lv_trammel_pack_Read, Try.results6, hm1])
        | (with_reducible first | refine run_nil ?_ | refine guardG_n rfl ?_ | refine guardG_y ?_ | refine guardG_u ?_ | refine andD ?_ ?_ | refine then_n ?_ | refine aw_seq ?_ | refine regN fun K hK => ?_ | refine condV_t ?_ | refine condV_f ?_ | refine then_e ?_ | refine then_r ?_ | refine block_n ?_ | refine block_r ?_ | refine block_e ?_ | refine aw_block ?_ | refine aw_skip ?_ | refine aw_ret ?_ | refine aw_exit ?_ | refine aw_loop ?_ | refine aw_condc_t ?_ | refine aw_condc_f ?_ | refine draw_nil ?_ | refine regD fun K hK => ?_)
        | (with_reducible refine hK _ ?_; clear hK K)
        | (with_reducible refine hK _ _ ?_ ?_; (· kernel_rfl); clear hK K)
        | ((with_reducible first | refine gO_some ?_ ?_ | refine aw_condE ?_ ?_ | refine block_o ?_ ?_); (· decide))
        | (with_reducible refine aw_drawB tk0 lv_trammel_pack_Read ?_ ?_; (· kernel_rfl))
        | ((with_reducible first | refine guardG_b (fun hc => ?_) (fun hc => ?_) | refine condV_b (fun hc => ?_) (fun hc => ?_)) <;> (try simp only [decide_eq_true_eq, decide_eq_false_iff_not, Bool.not_true, Bool.not_false, Bool.not_eq_true', Bool.not_eq_false'] at hc) <;> (try (exfalso; omega)))
        | (with_reducible refine and_i ?_ ?_; (· first | omega | assumption | (refine ⟨?_, ?_⟩ <;> (first | omega | assumption | (simp only [List.length_append, List.length_map, List.length_cons, List.length_nil] <;> omega))) | (refine ⟨?_, ?_, ?_⟩ <;> (first | omega | assumption | (simp only [List.length_append, List.length_map, List.length_cons, List.length_nil] <;> omega))) | (simp only [List.length_append, List.length_map, List.length_cons, List.length_nil] <;> omega)))
        | (with_reducible refine ex_seal ?_)
        | fail)
      all_goals simp
  obtain ⟨hn, rfl⟩ := hx
  have hn1 : (0 : Int) < (n : Int) := by omega
  have hI2 := li_step hI rfl hn
  have hpr : recordR ⟨xs, false⟩ = (⟨(cutR (manyR ⟨xs, false⟩)).1, (severalR replyR (cutR (manyR ⟨xs, false⟩)).2).1⟩, (severalR replyR (cutR (manyR ⟨xs, false⟩)).2).2) := rfl
  rw [hpr] at hI2
  have hk1 := manyR_k ⟨xs, false⟩ h8'
  have hkl := many_le ⟨xs, false⟩
  have h83 := Is8.suffix h8' (fwd_many ⟨xs, false⟩)
  have hl3 := (fwd_many ⟨xs, false⟩).length_le
  simp only at hl3
  generalize manyR ⟨xs, false⟩ = q at *
  obtain ⟨k, ⟨ys, bad2⟩⟩ := q
  simp only at hk1 hkl h83 hl3
  have hcut : cutR (k, ⟨ys, bad2⟩) = (toText (ys.take k), ⟨ys.drop k, bad2⟩) := rfl
  rw [hcut] at hI2
  simp only at hI2
  have h84 : Is8 (ys.drop k) := h83.suffix (List.drop_suffix _ _)
  have h8t : Is8 (ys.take k) := fun x hx => h83 x (List.mem_of_mem_take hx)
  have hk2 := manyR_k ⟨ys.drop k, bad2⟩ h84
  have hml2 := many_le ⟨ys.drop k, bad2⟩
  have hm82 := Is8.suffix h84 (fwd_many ⟨ys.drop k, bad2⟩)
  have hm22 := (fwd_many ⟨ys.drop k, bad2⟩).length_le
  have hst2 := li_start replyR ⟨ys.drop k, bad2⟩
  simp only [List.length_drop] at hm22
  generalize manyR ⟨ys.drop k, bad2⟩ = q at *
  obtain ⟨m, s4⟩ := q
  simp only at hk2 hml2 hm82 hm22 hst2
  simp only [rdA, List.map_drop, List.length_drop] at hk2
  obtain ⟨s3, hs3⟩ : ∃ s3 : Rd, s3 = ⟨ys.drop k, bad2⟩ := ⟨_, rfl⟩
  rw [← hs3] at hst2 hI2
  have htb : toBytes (List.take k (ys.map byteN)) = (ys.take k).map UInt8.ofNat := by rw [← List.map_take, toBytes_byteN]
  have hteq : List.take k (ys.map byteN) = ((ys.take k).map UInt8.ofNat).map byteA := by rw [← List.map_take, byteN_back h8t]
  have htl : k = (List.take k (ys.map byteN)).length := by simp; omega
  repeat' (first
    | (with_reducible refine hY _ ?_; clear hY Y)
    | ((with_reducible first | refine run_n rfl (runN fun K' hK' => todo ?_) | refine hK' _ (eqTo2 fun Y hY => todo ?_) | refine run_g rfl (eqTo2 fun Y hY => todo ?_) | refine eqTo2 fun Y hY => todo ?_ | refine runN fun K' hK' => todo ?_ | refine aw_regionB tk0 lv_trammel_pack_Read (eqTo2 fun Y hY => todo ?_) | refine todo ?_ | refine qretT_r ?_ | refine draw_n rfl (drawN fun K' hK' => todo ?_) | refine hK' _ _ (eqTo2 fun Y hY => todo ?_) | refine draw_g rfl (eqTo2 fun Y hY => todo ?_) | refine drawN fun K' hK' => todo ?_ | refine qretT_n ?_); (try clear hK' K'); (try dsimp only [aop]); try simp only [go_sem, ↓reduceIte, Nat.reduceEqDiff, Nat.reduceLT, Nat.reduceLeDiff, Nat.reduceAdd, Nat.reduceSub, Nat.reduceMul, Nat.reduceBEq, Nat.reduceBNe, Nat.reducePow, Int.reduceToNat, Int.reduceLE, Int.reduceLT, Int.reduceMul, Int.reduceEq, Int.reducePow, Int.reduceAdd, Int.reduceSub, Int.reduceNeg, reduceCtorEq, lv_trammel_pack_Read, Try.results6, hn1, htb])
    | (with_reducible first | refine run_nil ?_ | refine guardG_n rfl ?_ | refine guardG_y ?_ | refine guardG_u ?_ | refine andD ?_ ?_ | refine then_n ?_ | refine aw_seq ?_ | refine regN fun K hK => ?_ | refine condV_t ?_ | refine condV_f ?_ | refine then_e ?_ | refine then_r ?_ | refine block_n ?_ | refine block_r ?_ | refine block_e ?_ | refine aw_block ?_ | refine aw_skip ?_ | refine aw_ret ?_ | refine aw_exit ?_ | refine aw_loop ?_ | refine aw_condc_t ?_ | refine aw_condc_f ?_ | refine draw_nil ?_ | refine regD fun K hK => ?_)
    | (with_reducible refine hK _ ?_; clear hK K)
    | (with_reducible refine hK _ _ ?_ ?_; (· kernel_rfl); clear hK K)
    | ((with_reducible first | refine gO_some ?_ ?_ | refine aw_condE ?_ ?_ | refine block_o ?_ ?_); (· decide))
    | (with_reducible refine aw_drawB tk0 lv_trammel_pack_Read ?_ ?_; (· kernel_rfl))
    | ((with_reducible first | refine guardG_b (fun hc => ?_) (fun hc => ?_) | refine condV_b (fun hc => ?_) (fun hc => ?_)) <;> (try simp only [decide_eq_true_eq, decide_eq_false_iff_not, Bool.not_true, Bool.not_false, Bool.not_eq_true', Bool.not_eq_false'] at hc) <;> (try (exfalso; omega)))
    | (with_reducible refine and_i ?_ ?_; (· first | omega | assumption | (refine ⟨?_, ?_⟩ <;> (first | omega | assumption | (simp only [List.length_append, List.length_map, List.length_cons, List.length_nil] <;> omega))) | (refine ⟨?_, ?_, ?_⟩ <;> (first | omega | assumption | (simp only [List.length_append, List.length_map, List.length_cons, List.length_nil] <;> omega))) | (simp only [List.length_append, List.length_map, List.length_cons, List.length_nil] <;> omega)))
    | (with_reducible refine ex_callT (hk1) ?_)
    | (with_reducible refine ex_callT (hk2) ?_)
    | (with_reducible refine ex_seal ?_)
    | fail)
  refine awl_le (ale_tokB (b := 10068) (k0 := 10008) (i := 1) 43 (by decide) (by decide) (by decide) rfl rfl rfl) ?_
  refine awl_ind (α := List ReplyD × Nat × Rd) (fun p => [(2, .loc 10002 0), (4, .loc 10017 0), (5, .loc 10005 0), (6, intA (n : Int)), (8, .loc 10008 0), (9, intA (p.2.1 : Int)), (10002, .bc [.sl [] 0 .full] 25), (10005, .bc [.sl (acc.flatMap recordA) acc.length (.tok 10074)] 25),
      (10008, .bc [.c (.string (toText (ys.take k))), .sl (p.1.flatMap replyA) p.1.length (.tok 10068)] 46), (10017, rdA p.2.2), (10068, .bt p.1.length 43), (10074, .bt acc.length 46)])
    (fun p => LoopI replyR s3 p.1 p.2.1 p.2.2 ∧ Is8 p.2.2.xs ∧ p.1.length + p.2.1 ≤ 4194304 ∧ p.2.2.xs.length ≤ 4194304) (fun p => p.2.1) ([], m, s4) [2, 4, 5, 6, 8, 9] ?_ ⟨hst2, hm82, by (show 0 + m ≤ 4194304); omega, by simp only; omega⟩ ?_
  · simp only [go_sem, ↓reduceIte, Nat.reduceEqDiff, Nat.reduceLT, Nat.reduceLeDiff, Nat.reduceAdd, Nat.reduceSub, Nat.reduceMul, Nat.reduceBEq, Nat.reduceBNe, Nat.reducePow, Int.reduceToNat, Int.reduceLE, Int.reduceLT, Int.reduceMul, Int.reduceEq, Int.reducePow, Int.reduceAdd, Int.reduceSub, Int.reduceNeg, reduceCtorEq, List.set_cons_zero, List.set_cons_succ] <;> simp [intA, toText]
  generalize toText (ys.take k) = N at *
  rintro ⟨accA, m', ⟨zs, bad⟩⟩ ⟨hJ, h8'', hle2, hyl⟩ ih2
  simp only at ih2 hJ h8'' hle2 hyl ⊢
  simp only [intA, rdA]
  clear hk1 hk2
  by_cases hx : 0 < m' ∧ bad = false
  case pos =>
    obtain ⟨hm, rfl⟩ := hx
    have hm1 : (0 : Int) < (m' : Int) := by omega
    have hJ2 := li_step hJ rfl hm
    have hk1 := replyR_k ⟨zs, false⟩ h8'' hyl
    have h85 := Is8.suffix h8'' (fwd_reply ⟨zs, false⟩)
    have hl5 := (fwd_reply ⟨zs, false⟩).length_le
    simp only at hl5
    generalize replyR ⟨zs, false⟩ = q1 at *
    obtain ⟨z1, s5⟩ := q1
    simp only at hk1 hJ2 h85 hl5
    repeat' (first
      | (with_reducible refine hY _ ?_; clear hY Y)
      | ((with_reducible first | refine run_n rfl (runN fun K' hK' => todo ?_) | refine hK' _ (eqTo2 fun Y hY => todo ?_) | refine run_g rfl (eqTo2 fun Y hY => todo ?_) | refine eqTo2 fun Y hY => todo ?_ | refine runN fun K' hK' => todo ?_ | refine aw_regionB tk0 lv_trammel_pack_Read (eqTo2 fun Y hY => todo ?_) | refine todo ?_ | refine qretT_r ?_ | refine draw_n rfl (drawN fun K' hK' => todo ?_) | refine hK' _ _ (eqTo2 fun Y hY => todo ?_) | refine draw_g rfl (eqTo2 fun Y hY => todo ?_) | refine drawN fun K' hK' => todo ?_ | refine qretT_n ?_); (try clear hK' K'); (try dsimp only [aop]); try simp only [go_sem, ↓reduceIte, Nat.reduceEqDiff, Nat.reduceLT, Nat.reduceLeDiff, Nat.reduceAdd, Nat.reduceSub, Nat.reduceMul, Nat.reduceBEq, Nat.reduceBNe, Nat.reducePow, Int.reduceToNat, Int.reduceLE, Int.reduceLT, Int.reduceMul, Int.reduceEq, Int.reducePow, Int.reduceAdd, Int.reduceSub, Int.reduceNeg, reduceCtorEq, lv_trammel_pack_Read, Try.results6, hm1, fm_len (f := replyA) (k := 3) (fun _ => rfl)])
      | (with_reducible first | refine run_nil ?_ | refine guardG_n rfl ?_ | refine guardG_y ?_ | refine guardG_u ?_ | refine andD ?_ ?_ | refine then_n ?_ | refine aw_seq ?_ | refine regN fun K hK => ?_ | refine condV_t ?_ | refine condV_f ?_ | refine then_e ?_ | refine then_r ?_ | refine block_n ?_ | refine block_r ?_ | refine block_e ?_ | refine aw_block ?_ | refine aw_skip ?_ | refine aw_ret ?_ | refine aw_exit ?_ | refine aw_loop ?_ | refine aw_condc_t ?_ | refine aw_condc_f ?_ | refine draw_nil ?_ | refine regD fun K hK => ?_)
      | (with_reducible refine hK _ ?_; clear hK K)
      | (with_reducible refine hK _ _ ?_ ?_; (· kernel_rfl); clear hK K)
      | ((with_reducible first | refine gO_some ?_ ?_ | refine aw_condE ?_ ?_ | refine block_o ?_ ?_); (· decide))
      | (with_reducible refine aw_drawB tk0 lv_trammel_pack_Read ?_ ?_; (· kernel_rfl))
      | ((with_reducible first | refine guardG_b (fun hc => ?_) (fun hc => ?_) | refine condV_b (fun hc => ?_) (fun hc => ?_)) <;> (try simp only [decide_eq_true_eq, decide_eq_false_iff_not, Bool.not_true, Bool.not_false, Bool.not_eq_true', Bool.not_eq_false'] at hc) <;> (try (exfalso; omega)))
      | (with_reducible refine and_i ?_ ?_; (· first | omega | assumption | (refine ⟨?_, ?_⟩ <;> (first | omega | assumption | (simp only [List.length_append, List.length_map, List.length_cons, List.length_nil] <;> omega))) | (refine ⟨?_, ?_, ?_⟩ <;> (first | omega | assumption | (simp only [List.length_append, List.length_map, List.length_cons, List.length_nil] <;> omega))) | (simp only [List.length_append, List.length_map, List.length_cons, List.length_nil] <;> omega)))
      | (with_reducible refine ex_callT (hk1) ?_)
      | (with_reducible refine ex_seal ?_)
      | fail)
    refine awl_keep [2, 4, 5, 6, 8, 9] (by simp only [go_sem, ↓reduceIte, Nat.reduceEqDiff, Nat.reduceLT, Nat.reduceLeDiff, Nat.reduceAdd, Nat.reduceSub, Nat.reduceMul, Nat.reduceBEq, Nat.reduceBNe, Nat.reducePow, Int.reduceToNat, Int.reduceLE, Int.reduceLT, Int.reduceMul, Int.reduceEq, Int.reducePow, Int.reduceAdd, Int.reduceSub, Int.reduceNeg, reduceCtorEq]; exact rfl) ?_
    refine awl_eq (ih2 (accA ++ [z1], m' - 1, s5) ⟨hJ2, h85, (by simp only [List.length_append, List.length_cons, List.length_nil]; omega), by simp only; omega⟩ (by simp only; omega)) ?_
    simp [wrap_pred hm (by omega), intA, rdA]
  have hr : severalR replyR s3 = (accA, ⟨zs, bad⟩) := by
    by_cases hm : 0 < m'
    · cases bad
      · exact absurd ⟨hm, rfl⟩ hx
      · exact li_bad hJ rfl
    · exact li_zero hJ (by omega)
  rw [hr] at hI2
  simp only at hI2
  clear ih2
  have hx' : (¬ (0 : Int) < (m' : Int)) ∨ ((0 : Int) < (m' : Int) ∧ bad = true) := by
    by_cases hm : 0 < m'
    · cases bad
      · exact absurd ⟨hm, rfl⟩ hx
      · exact .inr ⟨by omega, rfl⟩
    · exact .inl (by omega)
  rcases hx' with hm1 | ⟨hm1, rfl⟩
  all_goals
    repeat' (first
      | (with_reducible refine hY _ ?_; clear hY Y)
      | ((with_reducible first | refine run_n rfl (runN fun K' hK' => todo ?_) | refine hK' _ (eqTo2 fun Y hY => todo ?_) | refine run_g rfl (eqTo2 fun Y hY => todo ?_) | refine eqTo2 fun Y hY => todo ?_ | refine runN fun K' hK' => todo ?_ | refine aw_regionB tk0 lv_trammel_pack_Read (eqTo2 fun Y hY => todo ?_) | refine todo ?_ | refine qretT_r ?_ | refine draw_n rfl (drawN fun K' hK' => todo ?_) | refine hK' _ _ (eqTo2 fun Y hY => todo ?_) | refine draw_g rfl (eqTo2 fun Y hY => todo ?_) | refine drawN fun K' hK' => todo ?_ | refine qretT_n ?_); (try clear hK' K'); (try dsimp only [aop]); try simp only [go_sem, ↓reduceIte, Nat.reduceEqDiff, Nat.reduceLT, Nat.reduceLeDiff, Nat.reduceAdd, Nat.reduceSub, Nat.reduceMul, Nat.reduceBEq, Nat.reduceBNe, Nat.reducePow, Int.reduceToNat, Int.reduceLE, Int.reduceLT, Int.reduceMul, Int.reduceEq, Int.reducePow, Int.reduceAdd, Int.reduceSub, Int.reduceNeg, reduceCtorEq, lv_trammel_pack_Read, Try.results6, hm1, fm_len (f := recordA) (k := 2) (fun _ => rfl)])
      | (with_reducible first | refine run_nil ?_ | refine guardG_n rfl ?_ | refine guardG_y ?_ | refine guardG_u ?_ | refine andD ?_ ?_ | refine then_n ?_ | refine aw_seq ?_ | refine regN fun K hK => ?_ | refine condV_t ?_ | refine condV_f ?_ | refine then_e ?_ | refine then_r ?_ | refine block_n ?_ | refine block_r ?_ | refine block_e ?_ | refine aw_block ?_ | refine aw_skip ?_ | refine aw_ret ?_ | refine aw_exit ?_ | refine aw_loop ?_ | refine aw_condc_t ?_ | refine aw_condc_f ?_ | refine draw_nil ?_ | refine regD fun K hK => ?_)
      | (with_reducible refine hK _ ?_; clear hK K)
      | (with_reducible refine hK _ _ ?_ ?_; (· kernel_rfl); clear hK K)
      | ((with_reducible first | refine gO_some ?_ ?_ | refine aw_condE ?_ ?_ | refine block_o ?_ ?_); (· decide))
      | (with_reducible refine aw_drawB tk0 lv_trammel_pack_Read ?_ ?_; (· kernel_rfl))
      | ((with_reducible first | refine guardG_b (fun hc => ?_) (fun hc => ?_) | refine condV_b (fun hc => ?_) (fun hc => ?_)) <;> (try simp only [decide_eq_true_eq, decide_eq_false_iff_not, Bool.not_true, Bool.not_false, Bool.not_eq_true', Bool.not_eq_false'] at hc) <;> (try (exfalso; omega)))
      | (with_reducible refine and_i ?_ ?_; (· first | omega | assumption | (refine ⟨?_, ?_⟩ <;> (first | omega | assumption | (simp only [List.length_append, List.length_map, List.length_cons, List.length_nil] <;> omega))) | (refine ⟨?_, ?_, ?_⟩ <;> (first | omega | assumption | (simp only [List.length_append, List.length_map, List.length_cons, List.length_nil] <;> omega))) | (simp only [List.length_append, List.length_map, List.length_cons, List.length_nil] <;> omega)))
      | (with_reducible refine ex_seal ?_)
      | fail)
    refine awl_keep [2, 4, 5, 6] (by simp only [go_sem, ↓reduceIte, Nat.reduceEqDiff, Nat.reduceLT, Nat.reduceLeDiff, Nat.reduceAdd, Nat.reduceSub, Nat.reduceMul, Nat.reduceBEq, Nat.reduceBNe, Nat.reducePow, Int.reduceToNat, Int.reduceLE, Int.reduceLT, Int.reduceMul, Int.reduceEq, Int.reducePow, Int.reduceAdd, Int.reduceSub, Int.reduceNeg, reduceCtorEq]; exact rfl) ?_
    refine awl_eq (ih (acc ++ [⟨N, accA⟩], n - 1, ⟨zs, _⟩) ⟨hI2, h8'', (by simp only [List.length_append, List.length_cons, List.length_nil]; omega), by simp only; omega⟩ (by simp only; omega)) ?_
    simp [wrap_pred hn (by omega), intA, rdA]
end Go.Proofs.Ytjgfhblciapkfaa
