/- Formulas in K: the document's Vars, Light. -/
import Derived.Test.YtbcakdhgbjgkgaaFvE
namespace Go.Proofs.Ytbcakdhgbjgkgaa
set_option linter.unusedSimpArgs false
set_option linter.unusedVariables false
open Go.RowKit
def vsF (f : Fo) : List Int := varsT (tsF (varsF f))
theorem vsF_len (f : Fo) : (vsF f).length ≤ (varsF f).length := by
  unfold vsF varsT srtI
  rw [List.length_mergeSort]
  have := keysT_le (tsF (varsF f))
  rw [show (tsF (varsF f)).length = (varsF f).length from List.length_map ..] at this
  exact this
def lv_trammel_trammelref02_Vars : Nat → List Nat
  | 0 => [0]
  | 1 => [1]
  | 2 => [1, 3]
  | 3 => [1, 3, 4]
  | 4 => [1, 3, 4]
  | 5 => [1, 3, 4]
  | 6 => [3]
  | _ => []
set_option maxRecDepth 100000 in
set_option maxHeartbeats 8000000 in
theorem rVars_t (f : Fo) (hok : OkF f) (hnn : ∀ v ∈ varsF f, 0 ≤ v) (hbd : (varsF f).length ≤ 1099511627776) : AFn Try.prog 9 [.agg (foA f)] [] (.sl ((vsF f).map inA) (vsF f).length (.tok 20000)) [.bt (vsF f).length 3] := by
  have hnx := fun a => next_k a f hok hnn
  have hle := vsF_len f
  have hsrt := varsT_sorted (tsF (varsF f))
  have hmem := varsT_mem (tsF (varsF f))
  have hp0 := tsF_nn hnn
  have hstep := @next_step (tsF (varsF f)) (vsF f) hsrt hmem hp0
  have hend := @nextV_end (tsF (varsF f)) hp0 (vsF f) hmem
  have h00 : ∀ x ∈ vsF f, 0 ≤ x := fun x hx => by
    obtain ⟨m, hm1, hm2⟩ := List.mem_map.1 ((hmem x).1 hx)
    rw [← hm2]; exact hp0 m hm1
  clear hsrt hmem hp0 hnn hok
  unfold nxF at hnx
  generalize vsF f = vs at *
  generalize hNX : nextV (tsF (varsF f)) = NX at *
  clear hNX
  obtain ⟨k, l, ks⟩ := f
  simp only [foA] at hnx ⊢
  generalize fosA ks = KS at *
  have hn0 := hnx (-1)
  refine afn_of [10012] Try.func9 rfl Try.ntmps9 (Nat.le_of_ble_eq_true rfl) (Nat.le_of_ble_eq_true rfl) fun w0 G0 B0 Pr hB0 => ?_
  simp only [start, argMap, List.cons_append, List.nil_append]
  repeat' (first
    | (with_reducible refine hY _ ?_; clear hY Y)
    | ((with_reducible first | refine run_n rfl (runN fun K' hK' => todo ?_) | refine hK' _ (eqTo2 fun Y hY => todo ?_) | refine run_g rfl (eqTo2 fun Y hY => todo ?_) | refine eqTo2 fun Y hY => todo ?_ | refine runN fun K' hK' => todo ?_ | refine aw_regionB tk0 lv_trammel_trammelref02_Vars (eqTo2 fun Y hY => todo ?_) | refine todo ?_ | refine qretT_r ?_ | refine draw_n rfl (drawN fun K' hK' => todo ?_) | refine hK' _ _ (eqTo2 fun Y hY => todo ?_) | refine draw_g rfl (eqTo2 fun Y hY => todo ?_) | refine drawN fun K' hK' => todo ?_ | refine qretT_n ?_); (try clear hK' K'); (try dsimp only [aop]); try simp only [go_sem, ↓reduceIte, Nat.reduceEqDiff, Nat.reduceLT, Nat.reduceLeDiff, Nat.reduceAdd, Nat.reduceSub, Nat.reduceMul, Nat.reduceBEq, Nat.reduceBNe, Nat.reducePow, Int.reduceToNat, Int.reduceLE, Int.reduceLT, Int.reduceMul, Int.reduceEq, Int.reducePow, Int.reduceAdd, Int.reduceSub, Int.reduceNeg, reduceCtorEq, lv_trammel_trammelref02_Vars, Try.results9])
    | (with_reducible first | refine run_nil ?_ | refine guardG_n rfl ?_ | refine guardG_y ?_ | refine guardG_u ?_ | refine andD ?_ ?_ | refine then_n ?_ | refine aw_seq ?_ | refine regN fun K hK => ?_ | refine condV_t ?_ | refine condV_f ?_ | refine then_e ?_ | refine then_r ?_ | refine block_n ?_ | refine block_r ?_ | refine block_e ?_ | refine aw_block ?_ | refine aw_skip ?_ | refine aw_ret ?_ | refine aw_exit ?_ | refine aw_loop ?_ | refine aw_condc_t ?_ | refine aw_condc_f ?_ | refine draw_nil ?_ | refine regD fun K hK => ?_)
    | (with_reducible refine hK _ ?_; clear hK K)
    | (with_reducible refine hK _ _ ?_ ?_; (· kernel_rfl); clear hK K)
    | ((with_reducible first | refine gO_some ?_ ?_ | refine aw_condE ?_ ?_ | refine block_o ?_ ?_); (· decide))
    | (with_reducible refine aw_drawB tk0 lv_trammel_trammelref02_Vars ?_ ?_; (· kernel_rfl))
    | ((with_reducible first | refine guardG_b (fun hc => ?_) (fun hc => ?_) | refine condV_b (fun hc => ?_) (fun hc => ?_)) <;> (try simp only [decide_eq_true_eq, decide_eq_false_iff_not, Bool.not_true, Bool.not_false, Bool.not_eq_true', Bool.not_eq_false'] at hc) <;> (try (exfalso; omega)))
    | (with_reducible refine and_i ?_ ?_; (· first | omega | assumption | (refine ⟨?_, ?_⟩ <;> (first | omega | assumption | (simp only [List.length_append, List.length_map, List.length_cons, List.length_nil] <;> omega))) | (refine ⟨?_, ?_, ?_⟩ <;> (first | omega | assumption | (simp only [List.length_append, List.length_map, List.length_cons, List.length_nil] <;> omega))) | (simp only [List.length_append, List.length_map, List.length_cons, List.length_nil] <;> omega)))
    | (with_reducible refine ex_callT (hn0) ?_)
    | (with_reducible refine ex_seal ?_)
    | fail)
  refine awl_le (ale_tok (b := 10012) (t := 3) 3 (by decide) (by decide) rfl rfl) ?_
  refine awl_ind (α := Nat × Int) (fun a => [(1, .loc 10001 0), (3, .sl ((vs.take a.1).map inA) a.1 (.tok 10012)), (4, inA (NX a.2)), (10001, .bc [inA k, inA l.c, .sl (cellsM l.t) l.t.length .none, .sl KS ks.length .none] 27), (10012, .bt a.1 3)])
    (fun a => a.1 ≤ vs.length ∧ -1 ≤ a.2 ∧ (∀ x ∈ vs.take a.1, x ≤ a.2) ∧ (∀ x ∈ vs.drop a.1, a.2 < x)) (fun a => vs.length - a.1) (0, -1) [1, 3, 4] ?_ ⟨Nat.zero_le _, Int.le_refl _, (fun x hx => absurd hx List.not_mem_nil), (fun x hx => by
      have := h00 x hx
      show (-1 : Int) < x
      omega)⟩ ?_
  · simp only [go_sem, ↓reduceIte, Nat.reduceEqDiff, Nat.reduceLT, Nat.reduceLeDiff, Nat.reduceAdd, Nat.reduceSub, Nat.reduceMul, Nat.reduceBEq, Nat.reduceBNe, Nat.reducePow, Int.reduceToNat, Int.reduceLE, Int.reduceLT, Int.reduceMul, Int.reduceEq, Int.reducePow, Int.reduceAdd, Int.reduceSub, Int.reduceNeg, reduceCtorEq] <;> rfl
  rintro ⟨n, last⟩ ⟨hn, hl, hq1, hq2⟩ ih
  simp only at hn hl hq1 hq2 ih ⊢
  by_cases hlt : n < vs.length
  · obtain ⟨e1, s1, s2, s3⟩ := hstep hlt hl hq1 hq2
    have ih' := ih (n + 1, vs[n]) ⟨by simp only; omega, by simp only; omega, s1, s2⟩ (by simp only; omega)
    simp only [List.take_succ_eq_append_getElem hlt, List.map_append, List.map_cons, List.map_nil] at ih'
    have hnv := hnx vs[n]
    have hcl : ((vs.take n).map inA).length = n := by rw [List.length_map, List.length_take]; omega
    rw [e1]
    clear ih hq1 hq2 hstep hend h00 s1 s2 e1 hnx hn0
    generalize vs[n] = v at *
    have hv0 : (0 ≤ v) = True := eq_true s3
    generalize (vs.take n).map inA = A at *
    generalize NX v = w at *
    repeat' (first
      | (with_reducible refine hY _ ?_; clear hY Y)
      | ((with_reducible first | refine run_n rfl (runN fun K' hK' => todo ?_) | refine hK' _ (eqTo2 fun Y hY => todo ?_) | refine run_g rfl (eqTo2 fun Y hY => todo ?_) | refine eqTo2 fun Y hY => todo ?_ | refine runN fun K' hK' => todo ?_ | refine aw_regionB tk0 lv_trammel_trammelref02_Vars (eqTo2 fun Y hY => todo ?_) | refine todo ?_ | refine qretT_r ?_ | refine draw_n rfl (drawN fun K' hK' => todo ?_) | refine hK' _ _ (eqTo2 fun Y hY => todo ?_) | refine draw_g rfl (eqTo2 fun Y hY => todo ?_) | refine drawN fun K' hK' => todo ?_ | refine qretT_n ?_); (try clear hK' K'); (try dsimp only [aop]); try simp only [go_sem, ↓reduceIte, Nat.reduceEqDiff, Nat.reduceLT, Nat.reduceLeDiff, Nat.reduceAdd, Nat.reduceSub, Nat.reduceMul, Nat.reduceBEq, Nat.reduceBNe, Nat.reducePow, Int.reduceToNat, Int.reduceLE, Int.reduceLT, Int.reduceMul, Int.reduceEq, Int.reducePow, Int.reduceAdd, Int.reduceSub, Int.reduceNeg, reduceCtorEq, lv_trammel_trammelref02_Vars, Try.results9, hv0, hcl])
      | (with_reducible first | refine run_nil ?_ | refine guardG_n rfl ?_ | refine guardG_y ?_ | refine guardG_u ?_ | refine andD ?_ ?_ | refine then_n ?_ | refine aw_seq ?_ | refine regN fun K hK => ?_ | refine condV_t ?_ | refine condV_f ?_ | refine then_e ?_ | refine then_r ?_ | refine block_n ?_ | refine block_r ?_ | refine block_e ?_ | refine aw_block ?_ | refine aw_skip ?_ | refine aw_ret ?_ | refine aw_exit ?_ | refine aw_loop ?_ | refine aw_condc_t ?_ | refine aw_condc_f ?_ | refine draw_nil ?_ | refine regD fun K hK => ?_)
      | (with_reducible refine hK _ ?_; clear hK K)
      | (with_reducible refine hK _ _ ?_ ?_; (· kernel_rfl); clear hK K)
      | ((with_reducible first | refine gO_some ?_ ?_ | refine aw_condE ?_ ?_ | refine block_o ?_ ?_); (· decide))
      | (with_reducible refine aw_drawB tk0 lv_trammel_trammelref02_Vars ?_ ?_; (· kernel_rfl))
      | ((with_reducible first | refine guardG_b (fun hc => ?_) (fun hc => ?_) | refine condV_b (fun hc => ?_) (fun hc => ?_)) <;> (try simp only [decide_eq_true_eq, decide_eq_false_iff_not, Bool.not_true, Bool.not_false, Bool.not_eq_true', Bool.not_eq_false'] at hc) <;> (try (exfalso; omega)))
      | (with_reducible refine and_i ?_ ?_; (· first | omega | assumption | (refine ⟨?_, ?_⟩ <;> (first | omega | assumption | (simp only [List.length_append, List.length_map, List.length_cons, List.length_nil] <;> omega))) | (refine ⟨?_, ?_, ?_⟩ <;> (first | omega | assumption | (simp only [List.length_append, List.length_map, List.length_cons, List.length_nil] <;> omega))) | (simp only [List.length_append, List.length_map, List.length_cons, List.length_nil] <;> omega)))
      | (with_reducible refine ex_callT (hnv) ?_)
      | (with_reducible refine ex_seal ?_)
      | fail)
    refine awl_keep [1, 3, 4] (by simp only [go_sem, ↓reduceIte, Nat.reduceEqDiff, Nat.reduceLT, Nat.reduceLeDiff, Nat.reduceAdd, Nat.reduceSub, Nat.reduceMul, Nat.reduceBEq, Nat.reduceBNe, Nat.reducePow, Int.reduceToNat, Int.reduceLE, Int.reduceLT, Int.reduceMul, Int.reduceEq, Int.reducePow, Int.reduceAdd, Int.reduceSub, Int.reduceNeg, reduceCtorEq]; exact rfl) ?_
    exact ih'
  · obtain rfl : n = vs.length := by omega
    rw [List.take_of_length_le (Nat.le_refl _)] at hq1 ⊢
    have hneg := hend hl hq1
    have hv0 : (0 ≤ NX last) = False := eq_false (by omega)
    clear ih hq1 hq2 hstep hend h00 hnx hn0
    repeat' (first
      | (with_reducible refine hY _ ?_; clear hY Y)
      | ((with_reducible first | refine run_n rfl (runN fun K' hK' => todo ?_) | refine hK' _ (eqTo2 fun Y hY => todo ?_) | refine run_g rfl (eqTo2 fun Y hY => todo ?_) | refine eqTo2 fun Y hY => todo ?_ | refine runN fun K' hK' => todo ?_ | refine aw_regionB tk0 lv_trammel_trammelref02_Vars (eqTo2 fun Y hY => todo ?_) | refine todo ?_ | refine qretT_r ?_ | refine draw_n rfl (drawN fun K' hK' => todo ?_) | refine hK' _ _ (eqTo2 fun Y hY => todo ?_) | refine draw_g rfl (eqTo2 fun Y hY => todo ?_) | refine drawN fun K' hK' => todo ?_ | refine qretT_n ?_); (try clear hK' K'); (try dsimp only [aop]); try simp only [go_sem, ↓reduceIte, Nat.reduceEqDiff, Nat.reduceLT, Nat.reduceLeDiff, Nat.reduceAdd, Nat.reduceSub, Nat.reduceMul, Nat.reduceBEq, Nat.reduceBNe, Nat.reducePow, Int.reduceToNat, Int.reduceLE, Int.reduceLT, Int.reduceMul, Int.reduceEq, Int.reducePow, Int.reduceAdd, Int.reduceSub, Int.reduceNeg, reduceCtorEq, lv_trammel_trammelref02_Vars, Try.results9, hv0])
      | (with_reducible first | refine run_nil ?_ | refine guardG_n rfl ?_ | refine guardG_y ?_ | refine guardG_u ?_ | refine andD ?_ ?_ | refine then_n ?_ | refine aw_seq ?_ | refine regN fun K hK => ?_ | refine condV_t ?_ | refine condV_f ?_ | refine then_e ?_ | refine then_r ?_ | refine block_n ?_ | refine block_r ?_ | refine block_e ?_ | refine aw_block ?_ | refine aw_skip ?_ | refine aw_ret ?_ | refine aw_exit ?_ | refine aw_loop ?_ | refine aw_condc_t ?_ | refine aw_condc_f ?_ | refine draw_nil ?_ | refine regD fun K hK => ?_)
      | (with_reducible refine hK _ ?_; clear hK K)
      | (with_reducible refine hK _ _ ?_ ?_; (· kernel_rfl); clear hK K)
      | ((with_reducible first | refine gO_some ?_ ?_ | refine aw_condE ?_ ?_ | refine block_o ?_ ?_); (· decide))
      | (with_reducible refine aw_drawB tk0 lv_trammel_trammelref02_Vars ?_ ?_; (· kernel_rfl))
      | ((with_reducible first | refine guardG_b (fun hc => ?_) (fun hc => ?_) | refine condV_b (fun hc => ?_) (fun hc => ?_)) <;> (try simp only [decide_eq_true_eq, decide_eq_false_iff_not, Bool.not_true, Bool.not_false, Bool.not_eq_true', Bool.not_eq_false'] at hc) <;> (try (exfalso; omega)))
      | (with_reducible refine and_i ?_ ?_; (· first | omega | assumption | (refine ⟨?_, ?_⟩ <;> (first | omega | assumption | (simp only [List.length_append, List.length_map, List.length_cons, List.length_nil] <;> omega))) | (refine ⟨?_, ?_, ?_⟩ <;> (first | omega | assumption | (simp only [List.length_append, List.length_map, List.length_cons, List.length_nil] <;> omega))) | (simp only [List.length_append, List.length_map, List.length_cons, List.length_nil] <;> omega)))
      | (with_reducible refine ex_seal ?_)
      | fail)
theorem rVars_k (f : Fo) (hok : OkF f) (hnn : ∀ v ∈ varsF f, 0 ≤ v) (hbd : (varsF f).length ≤ 1099511627776) : AFn Try.prog 9 [.agg (foA f)] [] (.sl ((vsF f).map inA) (vsF f).length .none) [] := afn_drop (rVars_t f hok hnn hbd)
/-! ### Light. -/
mutual
def lgF : Fo → Int → Int → Int
  | .mk _ l ks, z, d => if d = 0 ∨ z - 1 < 0 ∨ z - 1 < (l.t.length : Int) ∨ z - 1 < (ks.length : Int) then -1 else lgFs ks (z - 1 - (l.t.length : Int)) (d - 1)
def lgFs : List Fo → Int → Int → Int
  | [], z, _ => z
  | f :: r, z, d => if lgF f z d < 0 then -1 else lgFs r (lgF f z d) d
end
mutual
theorem lgF_le : ∀ (f : Fo) (z d : Int), 0 ≤ z → lgF f z d ≤ z
  | .mk k l ks, z, d, hz => by
    rw [lgF]
    split
    · omega
    · have := lgFs_le ks (z - 1 - (l.t.length : Int)) (d - 1) (by omega)
      omega
theorem lgFs_le : ∀ (l : List Fo) (z d : Int), 0 ≤ z → lgFs l z d ≤ z
  | [], z, d, _ => Int.le_refl _
  | f :: r, z, d, hz => by
    rw [lgFs]
    split
    · omega
    · have h1 := lgF_le f z d hz
      have h2 := lgFs_le r (lgF f z d) d (by omega)
      omega
end
def lv_trammel_trammelref02_Light : Nat → List Nat
  | 0 => [0, 1, 2]
  | 1 => [1, 2, 3]
  | 2 => [1, 2, 3]
  | 3 => []
  | 4 => [1, 2, 3]
  | 5 => [1, 2, 3]
  | 6 => [1, 2, 3, 7]
  | 7 => [1, 2, 3, 7]
  | 8 => [1, 2, 3, 7]
  | 9 => [1, 2, 3, 7]
  | 10 => []
  | 11 => [1]
  | _ => []
set_option maxRecDepth 100000 in
set_option maxHeartbeats 8000000 in
theorem light_k : ∀ f, OkF f → ∀ z d : Int, 0 ≤ z → z ≤ 1000000 → 0 ≤ d → d ≤ 1000 → AFn Try.prog 6 [.agg (foA f), inA z, inA d] [] (inA (lgF f z d)) [] :=
  fo_ind fun k l ks hlt0 hlk hoks ih z d hz hz2 hd hd2 => by
    unfold Lg at hlt0 hlk
    obtain ⟨c, t⟩ := l
    simp only at hlt0
    rw [foA, lgF]
    simp only
    have hw1 : IntKind.i64.wrap (z - 1) = z - 1 := wrap_i64 (by omega) (by omega)
    have hw2 : IntKind.i64.wrap (d - 1) = d - 1 := wrap_i64 (by omega) (by omega)
    by_cases a1 : d = 0
    · rw [if_pos (.inl a1)]
      have b1 : (d = 0) = True := eq_true a1
      generalize fosA ks = KS at *
      refine afn_of [] Try.func6 rfl Try.ntmps6 (Nat.le_of_ble_eq_true rfl) (Nat.le_of_ble_eq_true rfl) fun w0 G0 B0 Pr hB0 => ?_
      simp only [start, argMap, List.cons_append, List.nil_append]
      repeat' (first
        | (with_reducible refine hY _ ?_; clear hY Y)
        | ((with_reducible first | refine run_n rfl (runN fun K' hK' => todo ?_) | refine hK' _ (eqTo2 fun Y hY => todo ?_) | refine run_g rfl (eqTo2 fun Y hY => todo ?_) | refine eqTo2 fun Y hY => todo ?_ | refine runN fun K' hK' => todo ?_ | refine aw_regionB tk0 lv_trammel_trammelref02_Light (eqTo2 fun Y hY => todo ?_) | refine todo ?_ | refine qretT_r ?_ | refine draw_n rfl (drawN fun K' hK' => todo ?_) | refine hK' _ _ (eqTo2 fun Y hY => todo ?_) | refine draw_g rfl (eqTo2 fun Y hY => todo ?_) | refine drawN fun K' hK' => todo ?_ | refine qretT_n ?_); (try clear hK' K'); (try dsimp only [aop]); try simp only [go_sem, ↓reduceIte, Nat.reduceEqDiff, Nat.reduceLT, Nat.reduceLeDiff, Nat.reduceAdd, Nat.reduceSub, Nat.reduceMul, Nat.reduceBEq, Nat.reduceBNe, Nat.reducePow, Int.reduceToNat, Int.reduceLE, Int.reduceLT, Int.reduceMul, Int.reduceEq, Int.reducePow, Int.reduceAdd, Int.reduceSub, Int.reduceNeg, reduceCtorEq, lv_trammel_trammelref02_Light, Try.results6, hw1, b1])
        | (with_reducible first | refine run_nil ?_ | refine guardG_n rfl ?_ | refine guardG_y ?_ | refine guardG_u ?_ | refine andD ?_ ?_ | refine then_n ?_ | refine aw_seq ?_ | refine regN fun K hK => ?_ | refine condV_t ?_ | refine condV_f ?_ | refine then_e ?_ | refine then_r ?_ | refine block_n ?_ | refine block_r ?_ | refine block_e ?_ | refine aw_block ?_ | refine aw_skip ?_ | refine aw_ret ?_ | refine aw_exit ?_ | refine aw_loop ?_ | refine aw_condc_t ?_ | refine aw_condc_f ?_ | refine draw_nil ?_ | refine regD fun K hK => ?_)
        | (with_reducible refine hK _ ?_; clear hK K)
        | (with_reducible refine hK _ _ ?_ ?_; (· kernel_rfl); clear hK K)
        | ((with_reducible first | refine gO_some ?_ ?_ | refine aw_condE ?_ ?_ | refine block_o ?_ ?_); (· decide))
        | (with_reducible refine aw_drawB tk0 lv_trammel_trammelref02_Light ?_ ?_; (· kernel_rfl))
        | ((with_reducible first | refine guardG_b (fun hc => ?_) (fun hc => ?_) | refine condV_b (fun hc => ?_) (fun hc => ?_)) <;> (try simp only [decide_eq_true_eq, decide_eq_false_iff_not, Bool.not_true, Bool.not_false, Bool.not_eq_true', Bool.not_eq_false'] at hc) <;> (try (exfalso; omega)))
        | (with_reducible refine and_i ?_ ?_; (· first | omega | assumption | (refine ⟨?_, ?_⟩ <;> (first | omega | assumption | (simp only [List.length_append, List.length_map, List.length_cons, List.length_nil] <;> omega))) | (refine ⟨?_, ?_, ?_⟩ <;> (first | omega | assumption | (simp only [List.length_append, List.length_map, List.length_cons, List.length_nil] <;> omega))) | (simp only [List.length_append, List.length_map, List.length_cons, List.length_nil] <;> omega)))
        | (with_reducible refine ex_seal ?_)
        | fail)
    have b1 : (d = 0) = False := eq_false a1
    by_cases a2 : z - 1 < 0
    · rw [if_pos (.inr (.inl a2))]
      have b2 : (z - 1 < 0) = True := eq_true a2
      generalize fosA ks = KS at *
      refine afn_of [] Try.func6 rfl Try.ntmps6 (Nat.le_of_ble_eq_true rfl) (Nat.le_of_ble_eq_true rfl) fun w0 G0 B0 Pr hB0 => ?_
      simp only [start, argMap, List.cons_append, List.nil_append]
      repeat' (first
        | (with_reducible refine hY _ ?_; clear hY Y)
        | ((with_reducible first | refine run_n rfl (runN fun K' hK' => todo ?_) | refine hK' _ (eqTo2 fun Y hY => todo ?_) | refine run_g rfl (eqTo2 fun Y hY => todo ?_) | refine eqTo2 fun Y hY => todo ?_ | refine runN fun K' hK' => todo ?_ | refine aw_regionB tk0 lv_trammel_trammelref02_Light (eqTo2 fun Y hY => todo ?_) | refine todo ?_ | refine qretT_r ?_ | refine draw_n rfl (drawN fun K' hK' => todo ?_) | refine hK' _ _ (eqTo2 fun Y hY => todo ?_) | refine draw_g rfl (eqTo2 fun Y hY => todo ?_) | refine drawN fun K' hK' => todo ?_ | refine qretT_n ?_); (try clear hK' K'); (try dsimp only [aop]); try simp only [go_sem, ↓reduceIte, Nat.reduceEqDiff, Nat.reduceLT, Nat.reduceLeDiff, Nat.reduceAdd, Nat.reduceSub, Nat.reduceMul, Nat.reduceBEq, Nat.reduceBNe, Nat.reducePow, Int.reduceToNat, Int.reduceLE, Int.reduceLT, Int.reduceMul, Int.reduceEq, Int.reducePow, Int.reduceAdd, Int.reduceSub, Int.reduceNeg, reduceCtorEq, lv_trammel_trammelref02_Light, Try.results6, hw1, b1, b2])
        | (with_reducible first | refine run_nil ?_ | refine guardG_n rfl ?_ | refine guardG_y ?_ | refine guardG_u ?_ | refine andD ?_ ?_ | refine then_n ?_ | refine aw_seq ?_ | refine regN fun K hK => ?_ | refine condV_t ?_ | refine condV_f ?_ | refine then_e ?_ | refine then_r ?_ | refine block_n ?_ | refine block_r ?_ | refine block_e ?_ | refine aw_block ?_ | refine aw_skip ?_ | refine aw_ret ?_ | refine aw_exit ?_ | refine aw_loop ?_ | refine aw_condc_t ?_ | refine aw_condc_f ?_ | refine draw_nil ?_ | refine regD fun K hK => ?_)
        | (with_reducible refine hK _ ?_; clear hK K)
        | (with_reducible refine hK _ _ ?_ ?_; (· kernel_rfl); clear hK K)
        | ((with_reducible first | refine gO_some ?_ ?_ | refine aw_condE ?_ ?_ | refine block_o ?_ ?_); (· decide))
        | (with_reducible refine aw_drawB tk0 lv_trammel_trammelref02_Light ?_ ?_; (· kernel_rfl))
        | ((with_reducible first | refine guardG_b (fun hc => ?_) (fun hc => ?_) | refine condV_b (fun hc => ?_) (fun hc => ?_)) <;> (try simp only [decide_eq_true_eq, decide_eq_false_iff_not, Bool.not_true, Bool.not_false, Bool.not_eq_true', Bool.not_eq_false'] at hc) <;> (try (exfalso; omega)))
        | (with_reducible refine and_i ?_ ?_; (· first | omega | assumption | (refine ⟨?_, ?_⟩ <;> (first | omega | assumption | (simp only [List.length_append, List.length_map, List.length_cons, List.length_nil] <;> omega))) | (refine ⟨?_, ?_, ?_⟩ <;> (first | omega | assumption | (simp only [List.length_append, List.length_map, List.length_cons, List.length_nil] <;> omega))) | (simp only [List.length_append, List.length_map, List.length_cons, List.length_nil] <;> omega)))
        | (with_reducible refine ex_seal ?_)
        | fail)
    have b2 : (z - 1 < 0) = False := eq_false a2
    by_cases a3 : z - 1 < (t.length : Int)
    · rw [if_pos (.inr (.inr (.inl a3)))]
      have b3 : (z - 1 < (t.length : Int)) = True := eq_true a3
      generalize fosA ks = KS at *
      refine afn_of [] Try.func6 rfl Try.ntmps6 (Nat.le_of_ble_eq_true rfl) (Nat.le_of_ble_eq_true rfl) fun w0 G0 B0 Pr hB0 => ?_
      simp only [start, argMap, List.cons_append, List.nil_append]
      repeat' (first
        | (with_reducible refine hY _ ?_; clear hY Y)
        | ((with_reducible first | refine run_n rfl (runN fun K' hK' => todo ?_) | refine hK' _ (eqTo2 fun Y hY => todo ?_) | refine run_g rfl (eqTo2 fun Y hY => todo ?_) | refine eqTo2 fun Y hY => todo ?_ | refine runN fun K' hK' => todo ?_ | refine aw_regionB tk0 lv_trammel_trammelref02_Light (eqTo2 fun Y hY => todo ?_) | refine todo ?_ | refine qretT_r ?_ | refine draw_n rfl (drawN fun K' hK' => todo ?_) | refine hK' _ _ (eqTo2 fun Y hY => todo ?_) | refine draw_g rfl (eqTo2 fun Y hY => todo ?_) | refine drawN fun K' hK' => todo ?_ | refine qretT_n ?_); (try clear hK' K'); (try dsimp only [aop]); try simp only [go_sem, ↓reduceIte, Nat.reduceEqDiff, Nat.reduceLT, Nat.reduceLeDiff, Nat.reduceAdd, Nat.reduceSub, Nat.reduceMul, Nat.reduceBEq, Nat.reduceBNe, Nat.reducePow, Int.reduceToNat, Int.reduceLE, Int.reduceLT, Int.reduceMul, Int.reduceEq, Int.reducePow, Int.reduceAdd, Int.reduceSub, Int.reduceNeg, reduceCtorEq, lv_trammel_trammelref02_Light, Try.results6, hw1, b1, b2, b3])
        | (with_reducible first | refine run_nil ?_ | refine guardG_n rfl ?_ | refine guardG_y ?_ | refine guardG_u ?_ | refine andD ?_ ?_ | refine then_n ?_ | refine aw_seq ?_ | refine regN fun K hK => ?_ | refine condV_t ?_ | refine condV_f ?_ | refine then_e ?_ | refine then_r ?_ | refine block_n ?_ | refine block_r ?_ | refine block_e ?_ | refine aw_block ?_ | refine aw_skip ?_ | refine aw_ret ?_ | refine aw_exit ?_ | refine aw_loop ?_ | refine aw_condc_t ?_ | refine aw_condc_f ?_ | refine draw_nil ?_ | refine regD fun K hK => ?_)
        | (with_reducible refine hK _ ?_; clear hK K)
        | (with_reducible refine hK _ _ ?_ ?_; (· kernel_rfl); clear hK K)
        | ((with_reducible first | refine gO_some ?_ ?_ | refine aw_condE ?_ ?_ | refine block_o ?_ ?_); (· decide))
        | (with_reducible refine aw_drawB tk0 lv_trammel_trammelref02_Light ?_ ?_; (· kernel_rfl))
        | ((with_reducible first | refine guardG_b (fun hc => ?_) (fun hc => ?_) | refine condV_b (fun hc => ?_) (fun hc => ?_)) <;> (try simp only [decide_eq_true_eq, decide_eq_false_iff_not, Bool.not_true, Bool.not_false, Bool.not_eq_true', Bool.not_eq_false'] at hc) <;> (try (exfalso; omega)))
        | (with_reducible refine and_i ?_ ?_; (· first | omega | assumption | (refine ⟨?_, ?_⟩ <;> (first | omega | assumption | (simp only [List.length_append, List.length_map, List.length_cons, List.length_nil] <;> omega))) | (refine ⟨?_, ?_, ?_⟩ <;> (first | omega | assumption | (simp only [List.length_append, List.length_map, List.length_cons, List.length_nil] <;> omega))) | (simp only [List.length_append, List.length_map, List.length_cons, List.length_nil] <;> omega)))
        | (with_reducible refine ex_seal ?_)
        | fail)
    have b3 : (z - 1 < (t.length : Int)) = False := eq_false a3
    by_cases a4 : z - 1 < (ks.length : Int)
    · rw [if_pos (.inr (.inr (.inr a4)))]
      have b4 : (z - 1 < (ks.length : Int)) = True := eq_true a4
      generalize fosA ks = KS at *
      refine afn_of [] Try.func6 rfl Try.ntmps6 (Nat.le_of_ble_eq_true rfl) (Nat.le_of_ble_eq_true rfl) fun w0 G0 B0 Pr hB0 => ?_
      simp only [start, argMap, List.cons_append, List.nil_append]
      repeat' (first
        | (with_reducible refine hY _ ?_; clear hY Y)
        | ((with_reducible first | refine run_n rfl (runN fun K' hK' => todo ?_) | refine hK' _ (eqTo2 fun Y hY => todo ?_) | refine run_g rfl (eqTo2 fun Y hY => todo ?_) | refine eqTo2 fun Y hY => todo ?_ | refine runN fun K' hK' => todo ?_ | refine aw_regionB tk0 lv_trammel_trammelref02_Light (eqTo2 fun Y hY => todo ?_) | refine todo ?_ | refine qretT_r ?_ | refine draw_n rfl (drawN fun K' hK' => todo ?_) | refine hK' _ _ (eqTo2 fun Y hY => todo ?_) | refine draw_g rfl (eqTo2 fun Y hY => todo ?_) | refine drawN fun K' hK' => todo ?_ | refine qretT_n ?_); (try clear hK' K'); (try dsimp only [aop]); try simp only [go_sem, ↓reduceIte, Nat.reduceEqDiff, Nat.reduceLT, Nat.reduceLeDiff, Nat.reduceAdd, Nat.reduceSub, Nat.reduceMul, Nat.reduceBEq, Nat.reduceBNe, Nat.reducePow, Int.reduceToNat, Int.reduceLE, Int.reduceLT, Int.reduceMul, Int.reduceEq, Int.reducePow, Int.reduceAdd, Int.reduceSub, Int.reduceNeg, reduceCtorEq, lv_trammel_trammelref02_Light, Try.results6, hw1, b1, b2, b3, b4])
        | (with_reducible first | refine run_nil ?_ | refine guardG_n rfl ?_ | refine guardG_y ?_ | refine guardG_u ?_ | refine andD ?_ ?_ | refine then_n ?_ | refine aw_seq ?_ | refine regN fun K hK => ?_ | refine condV_t ?_ | refine condV_f ?_ | refine then_e ?_ | refine then_r ?_ | refine block_n ?_ | refine block_r ?_ | refine block_e ?_ | refine aw_block ?_ | refine aw_skip ?_ | refine aw_ret ?_ | refine aw_exit ?_ | refine aw_loop ?_ | refine aw_condc_t ?_ | refine aw_condc_f ?_ | refine draw_nil ?_ | refine regD fun K hK => ?_)
        | (with_reducible refine hK _ ?_; clear hK K)
        | (with_reducible refine hK _ _ ?_ ?_; (· kernel_rfl); clear hK K)
        | ((with_reducible first | refine gO_some ?_ ?_ | refine aw_condE ?_ ?_ | refine block_o ?_ ?_); (· decide))
        | (with_reducible refine aw_drawB tk0 lv_trammel_trammelref02_Light ?_ ?_; (· kernel_rfl))
        | ((with_reducible first | refine guardG_b (fun hc => ?_) (fun hc => ?_) | refine condV_b (fun hc => ?_) (fun hc => ?_)) <;> (try simp only [decide_eq_true_eq, decide_eq_false_iff_not, Bool.not_true, Bool.not_false, Bool.not_eq_true', Bool.not_eq_false'] at hc) <;> (try (exfalso; omega)))
        | (with_reducible refine and_i ?_ ?_; (· first | omega | assumption | (refine ⟨?_, ?_⟩ <;> (first | omega | assumption | (simp only [List.length_append, List.length_map, List.length_cons, List.length_nil] <;> omega))) | (refine ⟨?_, ?_, ?_⟩ <;> (first | omega | assumption | (simp only [List.length_append, List.length_map, List.length_cons, List.length_nil] <;> omega))) | (simp only [List.length_append, List.length_map, List.length_cons, List.length_nil] <;> omega)))
        | (with_reducible refine ex_seal ?_)
        | fail)
    have b4 : (z - 1 < (ks.length : Int)) = False := eq_false a4
    rw [if_neg (by omega)]
    have hw3 : IntKind.i64.wrap (z - 1 - (t.length : Int)) = z - 1 - (t.length : Int) := wrap_i64 (by omega) (by omega)
    have hz0 : 0 ≤ z - 1 - (t.length : Int) := by omega
    refine afn_of [] Try.func6 rfl Try.ntmps6 (Nat.le_of_ble_eq_true rfl) (Nat.le_of_ble_eq_true rfl) fun w0 G0 B0 Pr hB0 => ?_
    simp only [start, argMap, List.cons_append, List.nil_append]
    repeat' (first
      | (with_reducible refine hY _ ?_; clear hY Y)
      | ((with_reducible first | refine run_n rfl (runN fun K' hK' => todo ?_) | refine hK' _ (eqTo2 fun Y hY => todo ?_) | refine run_g rfl (eqTo2 fun Y hY => todo ?_) | refine eqTo2 fun Y hY => todo ?_ | refine runN fun K' hK' => todo ?_ | refine aw_regionB tk0 lv_trammel_trammelref02_Light (eqTo2 fun Y hY => todo ?_) | refine todo ?_ | refine qretT_r ?_ | refine draw_n rfl (drawN fun K' hK' => todo ?_) | refine hK' _ _ (eqTo2 fun Y hY => todo ?_) | refine draw_g rfl (eqTo2 fun Y hY => todo ?_) | refine drawN fun K' hK' => todo ?_ | refine qretT_n ?_); (try clear hK' K'); (try dsimp only [aop]); try simp only [go_sem, ↓reduceIte, Nat.reduceEqDiff, Nat.reduceLT, Nat.reduceLeDiff, Nat.reduceAdd, Nat.reduceSub, Nat.reduceMul, Nat.reduceBEq, Nat.reduceBNe, Nat.reducePow, Int.reduceToNat, Int.reduceLE, Int.reduceLT, Int.reduceMul, Int.reduceEq, Int.reducePow, Int.reduceAdd, Int.reduceSub, Int.reduceNeg, reduceCtorEq, lv_trammel_trammelref02_Light, Try.results6, hw1, b1, b2, b3, b4, hw3])
      | (with_reducible first | refine run_nil ?_ | refine guardG_n rfl ?_ | refine guardG_y ?_ | refine guardG_u ?_ | refine andD ?_ ?_ | refine then_n ?_ | refine aw_seq ?_ | refine regN fun K hK => ?_ | refine condV_t ?_ | refine condV_f ?_ | refine then_e ?_ | refine then_r ?_ | refine block_n ?_ | refine block_r ?_ | refine block_e ?_ | refine aw_block ?_ | refine aw_skip ?_ | refine aw_ret ?_ | refine aw_exit ?_ | refine aw_loop ?_ | refine aw_condc_t ?_ | refine aw_condc_f ?_ | refine draw_nil ?_ | refine regD fun K hK => ?_)
      | (with_reducible refine hK _ ?_; clear hK K)
      | (with_reducible refine hK _ _ ?_ ?_; (· kernel_rfl); clear hK K)
      | ((with_reducible first | refine gO_some ?_ ?_ | refine aw_condE ?_ ?_ | refine block_o ?_ ?_); (· decide))
      | (with_reducible refine aw_drawB tk0 lv_trammel_trammelref02_Light ?_ ?_; (· kernel_rfl))
      | ((with_reducible first | refine guardG_b (fun hc => ?_) (fun hc => ?_) | refine condV_b (fun hc => ?_) (fun hc => ?_)) <;> (try simp only [decide_eq_true_eq, decide_eq_false_iff_not, Bool.not_true, Bool.not_false, Bool.not_eq_true', Bool.not_eq_false'] at hc) <;> (try (exfalso; omega)))
      | (with_reducible refine and_i ?_ ?_; (· first | omega | assumption | (refine ⟨?_, ?_⟩ <;> (first | omega | assumption | (simp only [List.length_append, List.length_map, List.length_cons, List.length_nil] <;> omega))) | (refine ⟨?_, ?_, ?_⟩ <;> (first | omega | assumption | (simp only [List.length_append, List.length_map, List.length_cons, List.length_nil] <;> omega))) | (simp only [List.length_append, List.length_map, List.length_cons, List.length_nil] <;> omega)))
      | (with_reducible refine ex_seal ?_)
      | fail)
    generalize hR : lgFs ks (z - 1 - (t.length : Int)) (d - 1) = R at *
    refine awl_ind (α := Nat × Int) (fun a => [(1, inA a.2), (2, inA d), (3, .loc 10003 0), (7, inA (a.1 : Int)), (10003, .bc [inA k, inA c, .sl (cellsM t) t.length .none, .sl (fosA ks) ks.length .none] 27)])
      (fun a => a.1 ≤ ks.length ∧ 0 ≤ a.2 ∧ a.2 ≤ 1000000 ∧ R = lgFs (ks.drop a.1) a.2 (d - 1)) (fun a => ks.length - a.1) (0, z - 1 - (t.length : Int)) [1, 2, 3, 7] ?_ ⟨Nat.zero_le _, hz0, by simp only; omega, hR.symm⟩ ?_
    · simp only [go_sem, ↓reduceIte, Nat.reduceEqDiff, Nat.reduceLT, Nat.reduceLeDiff, Nat.reduceAdd, Nat.reduceSub, Nat.reduceMul, Nat.reduceBEq, Nat.reduceBNe, Nat.reducePow, Int.reduceToNat, Int.reduceLE, Int.reduceLT, Int.reduceMul, Int.reduceEq, Int.reducePow, Int.reduceAdd, Int.reduceSub, Int.reduceNeg, reduceCtorEq] <;> rfl
    rintro ⟨j, y⟩ ⟨hj, hy0, hy1, hR2⟩ ihj
    simp only at hj hy0 hy1 hR2 ihj ⊢
    clear hR
    by_cases hlt : j < ks.length
    · have hlt' : ((j : Int) < (ks.length : Int)) = True := eq_true (by omega)
      have hkw := wrap_1 (n := j) (by omega)
      have hg0 := fos_at hlt
      have hfl := fosA_len ks
      have h1 := ih ks[j] (List.getElem_mem hlt) y (d - 1) hy0 hy1 (by omega) (by omega)
      have hle := lgF_le ks[j] y (d - 1) hy0
      rw [List.drop_eq_getElem_cons hlt, lgFs] at hR2
      generalize lgF ks[j] y (d - 1) = q at *
      have next : ¬ q < 0 → _ := fun hq => ihj (j + 1, q) ⟨by simp only; omega, by simp only; omega, by simp only; omega, by rw [if_neg hq] at hR2; exact hR2⟩ (by simp only; omega)
      clear ih hoks ihj
      generalize ks[j] = y2 at *
      obtain ⟨yk, yl, ys⟩ := y2
      simp only [foA] at hg0 h1
      generalize fosA ks = KS at *
      by_cases hq : q < 0
      · have hq' : (q < 0) = True := eq_true hq
        rw [if_pos hq] at hR2
        rw [hR2]
        clear next
        repeat' (first
          | (with_reducible refine hY _ ?_; clear hY Y)
          | ((with_reducible first | refine run_n rfl (runN fun K' hK' => todo ?_) | refine hK' _ (eqTo2 fun Y hY => todo ?_) | refine run_g rfl (eqTo2 fun Y hY => todo ?_) | refine eqTo2 fun Y hY => todo ?_ | refine runN fun K' hK' => todo ?_ | refine aw_regionB tk0 lv_trammel_trammelref02_Light (eqTo2 fun Y hY => todo ?_) | refine todo ?_ | refine qretT_r ?_ | refine draw_n rfl (drawN fun K' hK' => todo ?_) | refine hK' _ _ (eqTo2 fun Y hY => todo ?_) | refine draw_g rfl (eqTo2 fun Y hY => todo ?_) | refine drawN fun K' hK' => todo ?_ | refine qretT_n ?_); (try clear hK' K'); (try dsimp only [aop]); try simp only [go_sem, ↓reduceIte, Nat.reduceEqDiff, Nat.reduceLT, Nat.reduceLeDiff, Nat.reduceAdd, Nat.reduceSub, Nat.reduceMul, Nat.reduceBEq, Nat.reduceBNe, Nat.reducePow, Int.reduceToNat, Int.reduceLE, Int.reduceLT, Int.reduceMul, Int.reduceEq, Int.reducePow, Int.reduceAdd, Int.reduceSub, Int.reduceNeg, reduceCtorEq, lv_trammel_trammelref02_Light, Try.results6, hlt', hkw, hg0, hfl, hw2, hq'])
          | (with_reducible first | refine run_nil ?_ | refine guardG_n rfl ?_ | refine guardG_y ?_ | refine guardG_u ?_ | refine andD ?_ ?_ | refine then_n ?_ | refine aw_seq ?_ | refine regN fun K hK => ?_ | refine condV_t ?_ | refine condV_f ?_ | refine then_e ?_ | refine then_r ?_ | refine block_n ?_ | refine block_r ?_ | refine block_e ?_ | refine aw_block ?_ | refine aw_skip ?_ | refine aw_ret ?_ | refine aw_exit ?_ | refine aw_loop ?_ | refine aw_condc_t ?_ | refine aw_condc_f ?_ | refine draw_nil ?_ | refine regD fun K hK => ?_)
          | (with_reducible refine hK _ ?_; clear hK K)
          | (with_reducible refine hK _ _ ?_ ?_; (· kernel_rfl); clear hK K)
          | ((with_reducible first | refine gO_some ?_ ?_ | refine aw_condE ?_ ?_ | refine block_o ?_ ?_); (· decide))
          | (with_reducible refine aw_drawB tk0 lv_trammel_trammelref02_Light ?_ ?_; (· kernel_rfl))
          | ((with_reducible first | refine guardG_b (fun hc => ?_) (fun hc => ?_) | refine condV_b (fun hc => ?_) (fun hc => ?_)) <;> (try simp only [decide_eq_true_eq, decide_eq_false_iff_not, Bool.not_true, Bool.not_false, Bool.not_eq_true', Bool.not_eq_false'] at hc) <;> (try (exfalso; omega)))
          | (with_reducible refine and_i ?_ ?_; (· first | omega | assumption | (refine ⟨?_, ?_⟩ <;> (first | omega | assumption | (simp only [List.length_append, List.length_map, List.length_cons, List.length_nil] <;> omega))) | (refine ⟨?_, ?_, ?_⟩ <;> (first | omega | assumption | (simp only [List.length_append, List.length_map, List.length_cons, List.length_nil] <;> omega))) | (simp only [List.length_append, List.length_map, List.length_cons, List.length_nil] <;> omega)))
          | (with_reducible refine ex_callT (h1) ?_)
          | (with_reducible refine ex_seal ?_)
          | fail)
      · have hq' : (q < 0) = False := eq_false hq
        have ih3 := next hq
        clear next hR2
        repeat' (first
          | (with_reducible refine hY _ ?_; clear hY Y)
          | ((with_reducible first | refine run_n rfl (runN fun K' hK' => todo ?_) | refine hK' _ (eqTo2 fun Y hY => todo ?_) | refine run_g rfl (eqTo2 fun Y hY => todo ?_) | refine eqTo2 fun Y hY => todo ?_ | refine runN fun K' hK' => todo ?_ | refine aw_regionB tk0 lv_trammel_trammelref02_Light (eqTo2 fun Y hY => todo ?_) | refine todo ?_ | refine qretT_r ?_ | refine draw_n rfl (drawN fun K' hK' => todo ?_) | refine hK' _ _ (eqTo2 fun Y hY => todo ?_) | refine draw_g rfl (eqTo2 fun Y hY => todo ?_) | refine drawN fun K' hK' => todo ?_ | refine qretT_n ?_); (try clear hK' K'); (try dsimp only [aop]); try simp only [go_sem, ↓reduceIte, Nat.reduceEqDiff, Nat.reduceLT, Nat.reduceLeDiff, Nat.reduceAdd, Nat.reduceSub, Nat.reduceMul, Nat.reduceBEq, Nat.reduceBNe, Nat.reducePow, Int.reduceToNat, Int.reduceLE, Int.reduceLT, Int.reduceMul, Int.reduceEq, Int.reducePow, Int.reduceAdd, Int.reduceSub, Int.reduceNeg, reduceCtorEq, lv_trammel_trammelref02_Light, Try.results6, hlt', hkw, hg0, hfl, hw2, hq'])
          | (with_reducible first | refine run_nil ?_ | refine guardG_n rfl ?_ | refine guardG_y ?_ | refine guardG_u ?_ | refine andD ?_ ?_ | refine then_n ?_ | refine aw_seq ?_ | refine regN fun K hK => ?_ | refine condV_t ?_ | refine condV_f ?_ | refine then_e ?_ | refine then_r ?_ | refine block_n ?_ | refine block_r ?_ | refine block_e ?_ | refine aw_block ?_ | refine aw_skip ?_ | refine aw_ret ?_ | refine aw_exit ?_ | refine aw_loop ?_ | refine aw_condc_t ?_ | refine aw_condc_f ?_ | refine draw_nil ?_ | refine regD fun K hK => ?_)
          | (with_reducible refine hK _ ?_; clear hK K)
          | (with_reducible refine hK _ _ ?_ ?_; (· kernel_rfl); clear hK K)
          | ((with_reducible first | refine gO_some ?_ ?_ | refine aw_condE ?_ ?_ | refine block_o ?_ ?_); (· decide))
          | (with_reducible refine aw_drawB tk0 lv_trammel_trammelref02_Light ?_ ?_; (· kernel_rfl))
          | ((with_reducible first | refine guardG_b (fun hc => ?_) (fun hc => ?_) | refine condV_b (fun hc => ?_) (fun hc => ?_)) <;> (try simp only [decide_eq_true_eq, decide_eq_false_iff_not, Bool.not_true, Bool.not_false, Bool.not_eq_true', Bool.not_eq_false'] at hc) <;> (try (exfalso; omega)))
          | (with_reducible refine and_i ?_ ?_; (· first | omega | assumption | (refine ⟨?_, ?_⟩ <;> (first | omega | assumption | (simp only [List.length_append, List.length_map, List.length_cons, List.length_nil] <;> omega))) | (refine ⟨?_, ?_, ?_⟩ <;> (first | omega | assumption | (simp only [List.length_append, List.length_map, List.length_cons, List.length_nil] <;> omega))) | (simp only [List.length_append, List.length_map, List.length_cons, List.length_nil] <;> omega)))
          | (with_reducible refine ex_callT (h1) ?_)
          | (with_reducible refine ex_seal ?_)
          | fail)
        refine awl_keep [1, 2, 3, 7] (by simp only [go_sem, ↓reduceIte, Nat.reduceEqDiff, Nat.reduceLT, Nat.reduceLeDiff, Nat.reduceAdd, Nat.reduceSub, Nat.reduceMul, Nat.reduceBEq, Nat.reduceBNe, Nat.reducePow, Int.reduceToNat, Int.reduceLE, Int.reduceLT, Int.reduceMul, Int.reduceEq, Int.reducePow, Int.reduceAdd, Int.reduceSub, Int.reduceNeg, reduceCtorEq]; exact rfl) ?_
        exact ih3
    · have hlt' : ((j : Int) < (ks.length : Int)) = False := eq_false (by omega)
      rw [List.drop_of_length_le (by omega)] at hR2
      rw [hR2, show lgFs [] y (d - 1) = y from rfl]
      clear ihj ih hoks hR2
      generalize fosA ks = KS at *
      repeat' (first
        | (with_reducible refine hY _ ?_; clear hY Y)
        | ((with_reducible first | refine run_n rfl (runN fun K' hK' => todo ?_) | refine hK' _ (eqTo2 fun Y hY => todo ?_) | refine run_g rfl (eqTo2 fun Y hY => todo ?_) | refine eqTo2 fun Y hY => todo ?_ | refine runN fun K' hK' => todo ?_ | refine aw_regionB tk0 lv_trammel_trammelref02_Light (eqTo2 fun Y hY => todo ?_) | refine todo ?_ | refine qretT_r ?_ | refine draw_n rfl (drawN fun K' hK' => todo ?_) | refine hK' _ _ (eqTo2 fun Y hY => todo ?_) | refine draw_g rfl (eqTo2 fun Y hY => todo ?_) | refine drawN fun K' hK' => todo ?_ | refine qretT_n ?_); (try clear hK' K'); (try dsimp only [aop]); try simp only [go_sem, ↓reduceIte, Nat.reduceEqDiff, Nat.reduceLT, Nat.reduceLeDiff, Nat.reduceAdd, Nat.reduceSub, Nat.reduceMul, Nat.reduceBEq, Nat.reduceBNe, Nat.reducePow, Int.reduceToNat, Int.reduceLE, Int.reduceLT, Int.reduceMul, Int.reduceEq, Int.reducePow, Int.reduceAdd, Int.reduceSub, Int.reduceNeg, reduceCtorEq, lv_trammel_trammelref02_Light, Try.results6, hlt'])
        | (with_reducible first | refine run_nil ?_ | refine guardG_n rfl ?_ | refine guardG_y ?_ | refine guardG_u ?_ | refine andD ?_ ?_ | refine then_n ?_ | refine aw_seq ?_ | refine regN fun K hK => ?_ | refine condV_t ?_ | refine condV_f ?_ | refine then_e ?_ | refine then_r ?_ | refine block_n ?_ | refine block_r ?_ | refine block_e ?_ | refine aw_block ?_ | refine aw_skip ?_ | refine aw_ret ?_ | refine aw_exit ?_ | refine aw_loop ?_ | refine aw_condc_t ?_ | refine aw_condc_f ?_ | refine draw_nil ?_ | refine regD fun K hK => ?_)
        | (with_reducible refine hK _ ?_; clear hK K)
        | (with_reducible refine hK _ _ ?_ ?_; (· kernel_rfl); clear hK K)
        | ((with_reducible first | refine gO_some ?_ ?_ | refine aw_condE ?_ ?_ | refine block_o ?_ ?_); (· decide))
        | (with_reducible refine aw_drawB tk0 lv_trammel_trammelref02_Light ?_ ?_; (· kernel_rfl))
        | ((with_reducible first | refine guardG_b (fun hc => ?_) (fun hc => ?_) | refine condV_b (fun hc => ?_) (fun hc => ?_)) <;> (try simp only [decide_eq_true_eq, decide_eq_false_iff_not, Bool.not_true, Bool.not_false, Bool.not_eq_true', Bool.not_eq_false'] at hc) <;> (try (exfalso; omega)))
        | (with_reducible refine and_i ?_ ?_; (· first | omega | assumption | (refine ⟨?_, ?_⟩ <;> (first | omega | assumption | (simp only [List.length_append, List.length_map, List.length_cons, List.length_nil] <;> omega))) | (refine ⟨?_, ?_, ?_⟩ <;> (first | omega | assumption | (simp only [List.length_append, List.length_map, List.length_cons, List.length_nil] <;> omega))) | (simp only [List.length_append, List.length_map, List.length_cons, List.length_nil] <;> omega)))
        | (with_reducible refine ex_seal ?_)
        | fail)
end Go.Proofs.Ytbcakdhgbjgkgaa
