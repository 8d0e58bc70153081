/- Cut in K: a sum divided. -/
import Derived.Test.YtjabaenpkimmjaaCtE
import Derived.Test.YtjabaenpkimmjaaCtT
namespace Go.Proofs.Ytjabaenpkimmjaa
set_option linter.unusedSimpArgs false
set_option linter.unusedVariables false
open Go.RowKit
attribute [-go_sem] foundA
theorem outT_snoc (ts : List Tm) (div v : Int) : ∀ a : List Int, outT ts div (a ++ [v]) = if sumT ts v = 0 then outT ts div a else outT ts div a ++ [(v, (sumT ts v).tdiv div)]
  | [] => by simp only [List.nil_append, outT]
  | u :: r => by
    rw [List.cons_append, outT, outT, outT_snoc ts div v r]
    by_cases h1 : sumT ts u = 0
    · simp only [if_pos h1]
    · simp only [if_neg h1]
      split
      · rfl
      · rfl
theorem outT_le (ts : List Tm) (div : Int) : ∀ a : List Int, (outT ts div a).length ≤ a.length
  | [] => Nat.le_refl _
  | v :: r => by
    have := outT_le ts div r
    unfold outT
    split
    · rw [List.length_cons]; omega
    · rw [List.length_cons, List.length_cons]; omega
theorem anyFar_snoc (ts : List Tm) (v : Int) (a : List Int) : anyFar ts (a ++ [v]) = (anyFar ts a || farB (sumT ts v)) := by
  unfold anyFar; rw [List.any_append, List.any_cons, List.any_nil, Bool.or_false]
theorem anyRest_snoc (ts : List Tm) (div v : Int) (a : List Int) : anyRest ts div (a ++ [v]) = (anyRest ts div a || !decide ((sumT ts v).tmod div = 0)) := by
  unfold anyRest; rw [List.any_append, List.any_cons, List.any_nil, Bool.or_false]
theorem dividedN_eq (c : Int) (ts : List Tm) (div : Int) (h : ¬ (div < 1 ∨ 1073741824 < div)) : dividedN c ts div = if farB c || anyFar ts (varsT ts) then (3, ⟨0, []⟩) else if anyRest ts div (varsT ts) then (7, ⟨0, []⟩) else soundN ⟨upZ c div, outT ts div (varsT ts)⟩ := by
  unfold dividedN
  rw [if_neg h]; rfl
theorem int_at {l : List Int} {i : Nat} (h : i < l.length) : ((l.map inA).drop i).take 1 = [inA l[i]] := by
  have := fm_at (f := fun z : Int => [inA z]) (k := 1) (fun _ => rfl) h
  rw [Nat.mul_one, ← fm_one] at this; exact this
theorem int_get {l : List Int} {i : Nat} (h : i < l.length) : (l.map inA).getD i .u = inA l[i] := map_at h
def lv_trammel_cut_divided : Nat → List Nat
  | 0 => [0, 1, 2]
  | 1 => [0, 1, 2, 6]
  | 2 => [6]
  | 3 => [0, 1, 2, 6]
  | 4 => [0, 1, 2, 6, 8, 9]
  | 5 => [1, 2, 6, 8, 9, 10]
  | 6 => [1, 2, 6, 8, 9, 10, 30, 31, 32]
  | 7 => [1, 2, 6, 8, 9, 10, 30, 31, 32]
  | 8 => [1, 2, 6, 8, 9, 10, 12, 30, 31, 32]
  | 9 => [1, 2, 6, 8, 9, 10, 12, 13, 30, 31, 32]
  | 10 => [1, 2, 6, 8, 9, 10, 12, 13, 30, 31, 32]
  | 11 => [1, 2, 6, 8, 9, 10, 12, 13, 30, 31, 32]
  | 12 => [1, 2, 6, 8, 9, 10, 30, 31, 32]
  | 13 => [6, 8, 9, 10]
  | 14 => [6]
  | 15 => [6, 8, 10]
  | 16 => [6]
  | 17 => [6, 10]
  | _ => []
set_option maxRecDepth 100000 in
set_option maxHeartbeats 16000000 in
theorem divided_k (c : Int) (M ts : List Tm) (div : Int) (hM : MapOf M ts) (hts : ∀ m ∈ ts, 0 ≤ m.1 ∧ m.1 < 1048576) (hlen : M.length ≤ 4096) (hc : -1125899906842624 ≤ c ∧ c ≤ 1125899906842624)
    (hs : ∀ v, -36028797018963968 ≤ sumT ts v ∧ sumT ts v ≤ 36028797018963968) :
    AFn Try.prog 17 [inA c, .mp 20000, inA div] [.bc (cellsM M) (1000000000 + 54)] (resL (dividedN c ts div)) [.bc (cellsM M) (1000000000 + 54)] := by
  by_cases hd1 : div < 1
  · rw [show dividedN c ts div = (1, ⟨0, []⟩) from if_pos (.inl hd1), resL_1]
    refine afn_of [] Try.func17 rfl Try.ntmps17 (Nat.le_of_ble_eq_true rfl) (Nat.le_of_ble_eq_true rfl) fun w0 G0 B0 Pr hB0 => ?_
    simp only [start, argMap, List.cons_append, List.nil_append]
    repeat' (first
      | (with_reducible refine hY _ ?_; clear hY Y)
      | ((with_reducible first | refine run_n rfl (runN fun K' hK' => todo ?_) | refine hK' _ (eqTo2 fun Y hY => todo ?_) | refine run_g rfl (eqTo2 fun Y hY => todo ?_) | refine eqTo2 fun Y hY => todo ?_ | refine runN fun K' hK' => todo ?_ | refine aw_regionB tk0 lv_trammel_cut_divided (eqTo2 fun Y hY => todo ?_) | refine todo ?_ | refine qretT_r ?_ | refine draw_n rfl (drawN fun K' hK' => todo ?_) | refine hK' _ _ (eqTo2 fun Y hY => todo ?_) | refine draw_g rfl (eqTo2 fun Y hY => todo ?_) | refine drawN fun K' hK' => todo ?_ | refine qretT_n ?_); (try clear hK' K'); (try dsimp only [aop]); try simp only [go_sem, ↓reduceIte, Nat.reduceEqDiff, Nat.reduceLT, Nat.reduceLeDiff, Nat.reduceAdd, Nat.reduceSub, Nat.reduceMul, Nat.reduceBEq, Nat.reduceBNe, Nat.reducePow, Int.reduceToNat, Int.reduceLE, Int.reduceLT, Int.reduceMul, Int.reduceEq, Int.reducePow, Int.reduceAdd, Int.reduceSub, Int.reduceNeg, reduceCtorEq, lv_trammel_cut_divided, Try.results17, hd1])
      | (with_reducible first | refine run_nil ?_ | refine guardG_n rfl ?_ | refine guardG_y ?_ | refine guardG_u ?_ | refine andD ?_ ?_ | refine then_n ?_ | refine aw_seq ?_ | refine regN fun K hK => ?_ | refine condV_t ?_ | refine condV_f ?_ | refine then_e ?_ | refine then_r ?_ | refine block_n ?_ | refine block_r ?_ | refine block_e ?_ | refine aw_block ?_ | refine aw_skip ?_ | refine aw_ret ?_ | refine aw_exit ?_ | refine aw_loop ?_ | refine aw_condc_t ?_ | refine aw_condc_f ?_ | refine draw_nil ?_ | refine regD fun K hK => ?_)
      | (with_reducible refine hK _ ?_; clear hK K)
      | (with_reducible refine hK _ _ ?_ ?_; (· kernel_rfl); clear hK K)
      | ((with_reducible first | refine gO_some ?_ ?_ | refine aw_condE ?_ ?_ | refine block_o ?_ ?_); (· decide))
      | (with_reducible refine aw_drawB tk0 lv_trammel_cut_divided ?_ ?_; (· kernel_rfl))
      | ((with_reducible first | refine guardG_b (fun hc => ?_) (fun hc => ?_) | refine condV_b (fun hc => ?_) (fun hc => ?_)) <;> (try simp only [decide_eq_true_eq, decide_eq_false_iff_not, Bool.not_true, Bool.not_false, Bool.not_eq_true', Bool.not_eq_false'] at hc) <;> (try (exfalso; omega)))
      | (with_reducible refine and_i ?_ ?_; (· first | omega | assumption | (refine ⟨?_, ?_⟩ <;> (first | omega | assumption | (simp only [List.length_append, List.length_map, List.length_cons, List.length_nil] <;> omega))) | (refine ⟨?_, ?_, ?_⟩ <;> (first | omega | assumption | (simp only [List.length_append, List.length_map, List.length_cons, List.length_nil] <;> omega))) | (simp only [List.length_append, List.length_map, List.length_cons, List.length_nil] <;> omega)))
      | (with_reducible refine ex_seal ?_)
      | fail)
  by_cases hd2 : 1073741824 < div
  · rw [show dividedN c ts div = (1, ⟨0, []⟩) from if_pos (.inr hd2), resL_1]
    refine afn_of [] Try.func17 rfl Try.ntmps17 (Nat.le_of_ble_eq_true rfl) (Nat.le_of_ble_eq_true rfl) fun w0 G0 B0 Pr hB0 => ?_
    simp only [start, argMap, List.cons_append, List.nil_append]
    repeat' (first
      | (with_reducible refine hY _ ?_; clear hY Y)
      | ((with_reducible first | refine run_n rfl (runN fun K' hK' => todo ?_) | refine hK' _ (eqTo2 fun Y hY => todo ?_) | refine run_g rfl (eqTo2 fun Y hY => todo ?_) | refine eqTo2 fun Y hY => todo ?_ | refine runN fun K' hK' => todo ?_ | refine aw_regionB tk0 lv_trammel_cut_divided (eqTo2 fun Y hY => todo ?_) | refine todo ?_ | refine qretT_r ?_ | refine draw_n rfl (drawN fun K' hK' => todo ?_) | refine hK' _ _ (eqTo2 fun Y hY => todo ?_) | refine draw_g rfl (eqTo2 fun Y hY => todo ?_) | refine drawN fun K' hK' => todo ?_ | refine qretT_n ?_); (try clear hK' K'); (try dsimp only [aop]); try simp only [go_sem, ↓reduceIte, Nat.reduceEqDiff, Nat.reduceLT, Nat.reduceLeDiff, Nat.reduceAdd, Nat.reduceSub, Nat.reduceMul, Nat.reduceBEq, Nat.reduceBNe, Nat.reducePow, Int.reduceToNat, Int.reduceLE, Int.reduceLT, Int.reduceMul, Int.reduceEq, Int.reducePow, Int.reduceAdd, Int.reduceSub, Int.reduceNeg, reduceCtorEq, lv_trammel_cut_divided, Try.results17, hd1, hd2])
      | (with_reducible first | refine run_nil ?_ | refine guardG_n rfl ?_ | refine guardG_y ?_ | refine guardG_u ?_ | refine andD ?_ ?_ | refine then_n ?_ | refine aw_seq ?_ | refine regN fun K hK => ?_ | refine condV_t ?_ | refine condV_f ?_ | refine then_e ?_ | refine then_r ?_ | refine block_n ?_ | refine block_r ?_ | refine block_e ?_ | refine aw_block ?_ | refine aw_skip ?_ | refine aw_ret ?_ | refine aw_exit ?_ | refine aw_loop ?_ | refine aw_condc_t ?_ | refine aw_condc_f ?_ | refine draw_nil ?_ | refine regD fun K hK => ?_)
      | (with_reducible refine hK _ ?_; clear hK K)
      | (with_reducible refine hK _ _ ?_ ?_; (· kernel_rfl); clear hK K)
      | ((with_reducible first | refine gO_some ?_ ?_ | refine aw_condE ?_ ?_ | refine block_o ?_ ?_); (· decide))
      | (with_reducible refine aw_drawB tk0 lv_trammel_cut_divided ?_ ?_; (· kernel_rfl))
      | ((with_reducible first | refine guardG_b (fun hc => ?_) (fun hc => ?_) | refine condV_b (fun hc => ?_) (fun hc => ?_)) <;> (try simp only [decide_eq_true_eq, decide_eq_false_iff_not, Bool.not_true, Bool.not_false, Bool.not_eq_true', Bool.not_eq_false'] at hc) <;> (try (exfalso; omega)))
      | (with_reducible refine and_i ?_ ?_; (· first | omega | assumption | (refine ⟨?_, ?_⟩ <;> (first | omega | assumption | (simp only [List.length_append, List.length_map, List.length_cons, List.length_nil] <;> omega))) | (refine ⟨?_, ?_, ?_⟩ <;> (first | omega | assumption | (simp only [List.length_append, List.length_map, List.length_cons, List.length_nil] <;> omega))) | (simp only [List.length_append, List.length_map, List.length_cons, List.length_nil] <;> omega)))
      | (with_reducible refine ex_seal ?_)
      | fail)
  rw [dividedN_eq c ts div (by omega)]
  have hMk : ∀ m ∈ M, 0 ≤ m.1 ∧ m.1 < 1048576 := fun m hm => by
    have h1 : m.1 ∈ ts.map (·.1) := (hM.key m.1).1 (List.mem_map.2 ⟨m, hm, rfl⟩)
    obtain ⟨x, hx, he⟩ := List.mem_map.1 h1
    rw [← he]; exact hts x hx
  have hfar := far_k c
  have hup := up_k c div (by omega) hc
  have hks := keysM_k M
  have hso := sortedI_k M hMk hlen
  rw [hM.sorted] at hso
  have hvl : (varsT ts).length ≤ 4096 := by
    rw [← hM.sorted]; unfold srtI; rw [List.length_mergeSort, List.length_map]; exact hlen
  refine afn_of [] Try.func17 rfl Try.ntmps17 (Nat.le_of_ble_eq_true rfl) (Nat.le_of_ble_eq_true rfl) fun w0 G0 B0 Pr hB0 => ?_
  simp only [start, argMap, List.cons_append, List.nil_append]
  repeat' (first
    | (with_reducible refine hY _ ?_; clear hY Y)
    | ((with_reducible first | refine run_n rfl (runN fun K' hK' => todo ?_) | refine hK' _ (eqTo2 fun Y hY => todo ?_) | refine run_g rfl (eqTo2 fun Y hY => todo ?_) | refine eqTo2 fun Y hY => todo ?_ | refine runN fun K' hK' => todo ?_ | refine aw_regionB tk0 lv_trammel_cut_divided (eqTo2 fun Y hY => todo ?_) | refine todo ?_ | refine qretT_r ?_ | refine draw_n rfl (drawN fun K' hK' => todo ?_) | refine hK' _ _ (eqTo2 fun Y hY => todo ?_) | refine draw_g rfl (eqTo2 fun Y hY => todo ?_) | refine drawN fun K' hK' => todo ?_ | refine qretT_n ?_); (try clear hK' K'); (try dsimp only [aop]); try simp only [go_sem, ↓reduceIte, Nat.reduceEqDiff, Nat.reduceLT, Nat.reduceLeDiff, Nat.reduceAdd, Nat.reduceSub, Nat.reduceMul, Nat.reduceBEq, Nat.reduceBNe, Nat.reducePow, Int.reduceToNat, Int.reduceLE, Int.reduceLT, Int.reduceMul, Int.reduceEq, Int.reducePow, Int.reduceAdd, Int.reduceSub, Int.reduceNeg, reduceCtorEq, lv_trammel_cut_divided, Try.results17, hd1, hd2])
    | (with_reducible first | refine run_nil ?_ | refine guardG_n rfl ?_ | refine guardG_y ?_ | refine guardG_u ?_ | refine andD ?_ ?_ | refine then_n ?_ | refine aw_seq ?_ | refine regN fun K hK => ?_ | refine condV_t ?_ | refine condV_f ?_ | refine then_e ?_ | refine then_r ?_ | refine block_n ?_ | refine block_r ?_ | refine block_e ?_ | refine aw_block ?_ | refine aw_skip ?_ | refine aw_ret ?_ | refine aw_exit ?_ | refine aw_loop ?_ | refine aw_condc_t ?_ | refine aw_condc_f ?_ | refine draw_nil ?_ | refine regD fun K hK => ?_)
    | (with_reducible refine hK _ ?_; clear hK K)
    | (with_reducible refine hK _ _ ?_ ?_; (· kernel_rfl); clear hK K)
    | ((with_reducible first | refine gO_some ?_ ?_ | refine aw_condE ?_ ?_ | refine block_o ?_ ?_); (· decide))
    | (with_reducible refine aw_drawB tk0 lv_trammel_cut_divided ?_ ?_; (· kernel_rfl))
    | ((with_reducible first | refine guardG_b (fun hc => ?_) (fun hc => ?_) | refine condV_b (fun hc => ?_) (fun hc => ?_)) <;> (try simp only [decide_eq_true_eq, decide_eq_false_iff_not, Bool.not_true, Bool.not_false, Bool.not_eq_true', Bool.not_eq_false'] at hc) <;> (try (exfalso; omega)))
    | (with_reducible refine and_i ?_ ?_; (· first | omega | assumption | (refine ⟨?_, ?_⟩ <;> (first | omega | assumption | (simp only [List.length_append, List.length_map, List.length_cons, List.length_nil] <;> omega))) | (refine ⟨?_, ?_, ?_⟩ <;> (first | omega | assumption | (simp only [List.length_append, List.length_map, List.length_cons, List.length_nil] <;> omega))) | (simp only [List.length_append, List.length_map, List.length_cons, List.length_nil] <;> omega)))
    | (with_reducible refine ex_callT (hfar) ?_)
    | (with_reducible refine ex_callT (hup) ?_)
    | (with_reducible refine ex_callT (hks) ?_)
    | (with_reducible refine ex_callT (hso) ?_)
    | (with_reducible refine ex_seal ?_)
    | fail)
  have hfo := found_M M
  have hko := keysOk_M M
  have hsum : ∀ v, getM M v = sumT ts v := hM.get
  clear hfar hup hks hso hMk hts hM
  have hdn : (div = 0) = False := eq_false (by omega)
  refine awl_le (ale_tokB (b := 10061) (k0 := 10010) (i := 1) 35 (by decide) (by decide) (by decide) rfl rfl rfl) ?_
  generalize hvs : varsT ts = vs at *
  refine awl_ind (α := Nat) (fun k => [(1, .mp 20000), (2, inA div), (6, .loc 10006 0), (8, .c (.bool (anyRest ts div (vs.take k)))), (9, .c (.bool (farB c || anyFar ts (vs.take k)))), (10, .loc 10010 0), (30, .sl (vs.map inA) vs.length .none), (31, inA (vs.length : Int)), (32, inA (k : Int)), (10006, .bc [inA 0, .sl [] 0 .full] 28), (10010, .bc [inA (upZ c div), .sl (cellsM (outT ts div (vs.take k))) (outT ts div (vs.take k)).length (.tok 10061)] 28), (10061, .bt (outT ts div (vs.take k)).length 35), (20000, .bc (cellsM M) (1000000000 + 54))])
    (fun k => k ≤ vs.length) (fun k => vs.length - k) 0 [1, 2, 6, 8, 9, 10, 30, 31, 32] ?_ (Nat.zero_le _) ?_
  · simp only [go_sem, ↓reduceIte, Nat.reduceEqDiff, Nat.reduceLT, Nat.reduceLeDiff, Nat.reduceAdd, Nat.reduceSub, Nat.reduceMul, Nat.reduceBEq, Nat.reduceBNe, Nat.reducePow, Int.reduceToNat, Int.reduceLE, Int.reduceLT, Int.reduceMul, Int.reduceEq, Int.reducePow, Int.reduceAdd, Int.reduceSub, Int.reduceNeg, reduceCtorEq, List.take_zero, anyRest, anyFar, List.any_nil, Bool.or_false, outT, cellsM, List.set_cons_succ, List.set_cons_zero] <;> rfl
  intro k hk ih
  by_cases hlt : k < vs.length
  · have hlt' : ((k : Int) < (vs.length : Int)) = True := eq_true (by omega)
    have hkw := wrap_1 (n := k) (by omega)
    have hg0 := int_at hlt
    have hg1 := int_get hlt
    have hvl2 : (vs.map inA).length = vs.length := List.length_map ..
    have ih' := ih (k + 1) (by omega) (by omega)
    have hol := outT_le ts div (vs.take k)
    have hcl := cellsM_len (outT ts div (vs.take k))
    have hbo : (outT ts div (vs.take k)).length ≤ 4096 := by rw [List.length_take] at hol; omega
    clear ih hol
    rw [List.take_succ_eq_append_getElem hlt, outT_snoc, anyFar_snoc, anyRest_snoc] at ih'
    generalize vs[k] = v at *
    have hK := hs v
    have hgv := hsum v
    have hfk := far_k (sumT ts v)
    have hlk := hfo v
    rw [hgv] at hlk
    generalize sumT ts v = K at *
    have hKb := tdiv_bd K div
    have hq : IntKind.i64.wrap (K.tdiv div) = K.tdiv div := wrap_i64 (by omega) (by omega)
    generalize outT ts div (vs.take k) = O at *
    generalize anyRest ts div (vs.take k) = r at *
    generalize hfo2 : anyFar ts (vs.take k) = f2 at *
    rw [← Bool.or_assoc] at ih'
    generalize (farB c || f2) = o at *
    by_cases hK0 : K = 0
    · subst hK0
      rw [if_pos rfl] at ih'
      clear hfk hfo
      repeat' (first
        | (with_reducible refine hY _ ?_; clear hY Y)
        | ((with_reducible first | refine run_n rfl (runN fun K' hK' => todo ?_) | refine hK' _ (eqTo2 fun Y hY => todo ?_) | refine run_g rfl (eqTo2 fun Y hY => todo ?_) | refine eqTo2 fun Y hY => todo ?_ | refine runN fun K' hK' => todo ?_ | refine aw_regionB tk0 lv_trammel_cut_divided (eqTo2 fun Y hY => todo ?_) | refine todo ?_ | refine qretT_r ?_ | refine draw_n rfl (drawN fun K' hK' => todo ?_) | refine hK' _ _ (eqTo2 fun Y hY => todo ?_) | refine draw_g rfl (eqTo2 fun Y hY => todo ?_) | refine drawN fun K' hK' => todo ?_ | refine qretT_n ?_); (try clear hK' K'); (try dsimp only [aop]); try simp only [go_sem, ↓reduceIte, Nat.reduceEqDiff, Nat.reduceLT, Nat.reduceLeDiff, Nat.reduceAdd, Nat.reduceSub, Nat.reduceMul, Nat.reduceBEq, Nat.reduceBNe, Nat.reducePow, Int.reduceToNat, Int.reduceLE, Int.reduceLT, Int.reduceMul, Int.reduceEq, Int.reducePow, Int.reduceAdd, Int.reduceSub, Int.reduceNeg, reduceCtorEq, lv_trammel_cut_divided, Try.results17, hlt', hg0, hg1, hvl2, hlk, hko, hkw])
        | (with_reducible first | refine run_nil ?_ | refine guardG_n rfl ?_ | refine guardG_y ?_ | refine guardG_u ?_ | refine andD ?_ ?_ | refine then_n ?_ | refine aw_seq ?_ | refine regN fun K hK => ?_ | refine condV_t ?_ | refine condV_f ?_ | refine then_e ?_ | refine then_r ?_ | refine block_n ?_ | refine block_r ?_ | refine block_e ?_ | refine aw_block ?_ | refine aw_skip ?_ | refine aw_ret ?_ | refine aw_exit ?_ | refine aw_loop ?_ | refine aw_condc_t ?_ | refine aw_condc_f ?_ | refine draw_nil ?_ | refine regD fun K hK => ?_)
        | (with_reducible refine hK _ ?_; clear hK K)
        | (with_reducible refine hK _ _ ?_ ?_; (· kernel_rfl); clear hK K)
        | ((with_reducible first | refine gO_some ?_ ?_ | refine aw_condE ?_ ?_ | refine block_o ?_ ?_); (· decide))
        | (with_reducible refine aw_drawB tk0 lv_trammel_cut_divided ?_ ?_; (· kernel_rfl))
        | ((with_reducible first | refine guardG_b (fun hc => ?_) (fun hc => ?_) | refine condV_b (fun hc => ?_) (fun hc => ?_)) <;> (try simp only [decide_eq_true_eq, decide_eq_false_iff_not, Bool.not_true, Bool.not_false, Bool.not_eq_true', Bool.not_eq_false'] at hc) <;> (try (exfalso; omega)))
        | (with_reducible refine and_i ?_ ?_; (· first | omega | assumption | (refine ⟨?_, ?_⟩ <;> (first | omega | assumption | (simp only [List.length_append, List.length_map, List.length_cons, List.length_nil] <;> omega))) | (refine ⟨?_, ?_, ?_⟩ <;> (first | omega | assumption | (simp only [List.length_append, List.length_map, List.length_cons, List.length_nil] <;> omega))) | (simp only [List.length_append, List.length_map, List.length_cons, List.length_nil] <;> omega)))
        | (with_reducible refine ex_seal ?_)
        | fail)
      refine awl_keep [1, 2, 6, 8, 9, 10, 30, 31, 32] (by simp only [go_sem, ↓reduceIte, Nat.reduceEqDiff, Nat.reduceLT, Nat.reduceLeDiff, Nat.reduceAdd, Nat.reduceSub, Nat.reduceMul, Nat.reduceBEq, Nat.reduceBNe, Nat.reducePow, Int.reduceToNat, Int.reduceLE, Int.reduceLT, Int.reduceMul, Int.reduceEq, Int.reducePow, Int.reduceAdd, Int.reduceSub, Int.reduceNeg, reduceCtorEq]; exact rfl) ?_
      refine awl_eq ih' ?_
      simp [farB]
    · rw [if_neg hK0, cellsM_app, List.length_append] at ih'
      clear hfo
      generalize farB K = fk at *
      cases r <;> cases o
      all_goals
        repeat' (first
          | (with_reducible refine hY _ ?_; clear hY Y)
          | ((with_reducible first | refine run_n rfl (runN fun K' hK' => todo ?_) | refine hK' _ (eqTo2 fun Y hY => todo ?_) | refine run_g rfl (eqTo2 fun Y hY => todo ?_) | refine eqTo2 fun Y hY => todo ?_ | refine runN fun K' hK' => todo ?_ | refine aw_regionB tk0 lv_trammel_cut_divided (eqTo2 fun Y hY => todo ?_) | refine todo ?_ | refine qretT_r ?_ | refine draw_n rfl (drawN fun K' hK' => todo ?_) | refine hK' _ _ (eqTo2 fun Y hY => todo ?_) | refine draw_g rfl (eqTo2 fun Y hY => todo ?_) | refine drawN fun K' hK' => todo ?_ | refine qretT_n ?_); (try clear hK' K'); (try dsimp only [aop]); try simp only [go_sem, ↓reduceIte, Nat.reduceEqDiff, Nat.reduceLT, Nat.reduceLeDiff, Nat.reduceAdd, Nat.reduceSub, Nat.reduceMul, Nat.reduceBEq, Nat.reduceBNe, Nat.reducePow, Int.reduceToNat, Int.reduceLE, Int.reduceLT, Int.reduceMul, Int.reduceEq, Int.reducePow, Int.reduceAdd, Int.reduceSub, Int.reduceNeg, reduceCtorEq, lv_trammel_cut_divided, Try.results17, hlt', hg0, hg1, hvl2, hlk, hko, hkw, hK0, hdn, hq, hcl])
          | (with_reducible first | refine run_nil ?_ | refine guardG_n rfl ?_ | refine guardG_y ?_ | refine guardG_u ?_ | refine andD ?_ ?_ | refine then_n ?_ | refine aw_seq ?_ | refine regN fun K hK => ?_ | refine condV_t ?_ | refine condV_f ?_ | refine then_e ?_ | refine then_r ?_ | refine block_n ?_ | refine block_r ?_ | refine block_e ?_ | refine aw_block ?_ | refine aw_skip ?_ | refine aw_ret ?_ | refine aw_exit ?_ | refine aw_loop ?_ | refine aw_condc_t ?_ | refine aw_condc_f ?_ | refine draw_nil ?_ | refine regD fun K hK => ?_)
          | (with_reducible refine hK _ ?_; clear hK K)
          | (with_reducible refine hK _ _ ?_ ?_; (· kernel_rfl); clear hK K)
          | ((with_reducible first | refine gO_some ?_ ?_ | refine aw_condE ?_ ?_ | refine block_o ?_ ?_); (· decide))
          | (with_reducible refine aw_drawB tk0 lv_trammel_cut_divided ?_ ?_; (· kernel_rfl))
          | ((with_reducible first | refine guardG_b (fun hc => ?_) (fun hc => ?_) | refine condV_b (fun hc => ?_) (fun hc => ?_)) <;> (try simp only [decide_eq_true_eq, decide_eq_false_iff_not, Bool.not_true, Bool.not_false, Bool.not_eq_true', Bool.not_eq_false'] at hc) <;> (try (exfalso; omega)))
          | (with_reducible refine and_i ?_ ?_; (· first | omega | assumption | (refine ⟨?_, ?_⟩ <;> (first | omega | assumption | (simp only [List.length_append, List.length_map, List.length_cons, List.length_nil] <;> omega))) | (refine ⟨?_, ?_, ?_⟩ <;> (first | omega | assumption | (simp only [List.length_append, List.length_map, List.length_cons, List.length_nil] <;> omega))) | (simp only [List.length_append, List.length_map, List.length_cons, List.length_nil] <;> omega)))
          | (with_reducible refine ex_callT (hfk) ?_)
          | (with_reducible refine ex_seal ?_)
          | fail)
      all_goals
        refine awl_keep [1, 2, 6, 8, 9, 10, 30, 31, 32] (by simp only [go_sem, ↓reduceIte, Nat.reduceEqDiff, Nat.reduceLT, Nat.reduceLeDiff, Nat.reduceAdd, Nat.reduceSub, Nat.reduceMul, Nat.reduceBEq, Nat.reduceBNe, Nat.reducePow, Int.reduceToNat, Int.reduceLE, Int.reduceLT, Int.reduceMul, Int.reduceEq, Int.reducePow, Int.reduceAdd, Int.reduceSub, Int.reduceNeg, reduceCtorEq]; exact rfl) ?_
        refine awl_eq ih' ?_
        simp [cellsM]
  · have hlt' : ((k : Int) < (vs.length : Int)) = False := eq_false (by omega)
    rw [List.take_of_length_le (by omega)]
    clear ih hfo hlt
    have hso := sound_k ⟨upZ c div, outT ts div vs⟩ (by have := outT_le ts div vs; show (outT ts div vs).length ≤ _; omega)
    generalize (farB c || anyFar ts vs) = o at *
    generalize anyRest ts div vs = r at *
    cases o with
    | true =>
      rw [if_pos rfl, resL_3]
      repeat' (first
        | (with_reducible refine hY _ ?_; clear hY Y)
        | ((with_reducible first | refine run_n rfl (runN fun K' hK' => todo ?_) | refine hK' _ (eqTo2 fun Y hY => todo ?_) | refine run_g rfl (eqTo2 fun Y hY => todo ?_) | refine eqTo2 fun Y hY => todo ?_ | refine runN fun K' hK' => todo ?_ | refine aw_regionB tk0 lv_trammel_cut_divided (eqTo2 fun Y hY => todo ?_) | refine todo ?_ | refine qretT_r ?_ | refine draw_n rfl (drawN fun K' hK' => todo ?_) | refine hK' _ _ (eqTo2 fun Y hY => todo ?_) | refine draw_g rfl (eqTo2 fun Y hY => todo ?_) | refine drawN fun K' hK' => todo ?_ | refine qretT_n ?_); (try clear hK' K'); (try dsimp only [aop]); try simp only [go_sem, ↓reduceIte, Nat.reduceEqDiff, Nat.reduceLT, Nat.reduceLeDiff, Nat.reduceAdd, Nat.reduceSub, Nat.reduceMul, Nat.reduceBEq, Nat.reduceBNe, Nat.reducePow, Int.reduceToNat, Int.reduceLE, Int.reduceLT, Int.reduceMul, Int.reduceEq, Int.reducePow, Int.reduceAdd, Int.reduceSub, Int.reduceNeg, reduceCtorEq, lv_trammel_cut_divided, Try.results17, hlt'])
        | (with_reducible first | refine run_nil ?_ | refine guardG_n rfl ?_ | refine guardG_y ?_ | refine guardG_u ?_ | refine andD ?_ ?_ | refine then_n ?_ | refine aw_seq ?_ | refine regN fun K hK => ?_ | refine condV_t ?_ | refine condV_f ?_ | refine then_e ?_ | refine then_r ?_ | refine block_n ?_ | refine block_r ?_ | refine block_e ?_ | refine aw_block ?_ | refine aw_skip ?_ | refine aw_ret ?_ | refine aw_exit ?_ | refine aw_loop ?_ | refine aw_condc_t ?_ | refine aw_condc_f ?_ | refine draw_nil ?_ | refine regD fun K hK => ?_)
        | (with_reducible refine hK _ ?_; clear hK K)
        | (with_reducible refine hK _ _ ?_ ?_; (· kernel_rfl); clear hK K)
        | ((with_reducible first | refine gO_some ?_ ?_ | refine aw_condE ?_ ?_ | refine block_o ?_ ?_); (· decide))
        | (with_reducible refine aw_drawB tk0 lv_trammel_cut_divided ?_ ?_; (· kernel_rfl))
        | ((with_reducible first | refine guardG_b (fun hc => ?_) (fun hc => ?_) | refine condV_b (fun hc => ?_) (fun hc => ?_)) <;> (try simp only [decide_eq_true_eq, decide_eq_false_iff_not, Bool.not_true, Bool.not_false, Bool.not_eq_true', Bool.not_eq_false'] at hc) <;> (try (exfalso; omega)))
        | (with_reducible refine and_i ?_ ?_; (· first | omega | assumption | (refine ⟨?_, ?_⟩ <;> (first | omega | assumption | (simp only [List.length_append, List.length_map, List.length_cons, List.length_nil] <;> omega))) | (refine ⟨?_, ?_, ?_⟩ <;> (first | omega | assumption | (simp only [List.length_append, List.length_map, List.length_cons, List.length_nil] <;> omega))) | (simp only [List.length_append, List.length_map, List.length_cons, List.length_nil] <;> omega)))
        | (with_reducible refine ex_seal ?_)
        | fail)
    | false =>
    rw [if_neg (by decide)]
    cases r with
    | true =>
      rw [if_pos rfl, resL_7]
      repeat' (first
        | (with_reducible refine hY _ ?_; clear hY Y)
        | ((with_reducible first | refine run_n rfl (runN fun K' hK' => todo ?_) | refine hK' _ (eqTo2 fun Y hY => todo ?_) | refine run_g rfl (eqTo2 fun Y hY => todo ?_) | refine eqTo2 fun Y hY => todo ?_ | refine runN fun K' hK' => todo ?_ | refine aw_regionB tk0 lv_trammel_cut_divided (eqTo2 fun Y hY => todo ?_) | refine todo ?_ | refine qretT_r ?_ | refine draw_n rfl (drawN fun K' hK' => todo ?_) | refine hK' _ _ (eqTo2 fun Y hY => todo ?_) | refine draw_g rfl (eqTo2 fun Y hY => todo ?_) | refine drawN fun K' hK' => todo ?_ | refine qretT_n ?_); (try clear hK' K'); (try dsimp only [aop]); try simp only [go_sem, ↓reduceIte, Nat.reduceEqDiff, Nat.reduceLT, Nat.reduceLeDiff, Nat.reduceAdd, Nat.reduceSub, Nat.reduceMul, Nat.reduceBEq, Nat.reduceBNe, Nat.reducePow, Int.reduceToNat, Int.reduceLE, Int.reduceLT, Int.reduceMul, Int.reduceEq, Int.reducePow, Int.reduceAdd, Int.reduceSub, Int.reduceNeg, reduceCtorEq, lv_trammel_cut_divided, Try.results17, hlt'])
        | (with_reducible first | refine run_nil ?_ | refine guardG_n rfl ?_ | refine guardG_y ?_ | refine guardG_u ?_ | refine andD ?_ ?_ | refine then_n ?_ | refine aw_seq ?_ | refine regN fun K hK => ?_ | refine condV_t ?_ | refine condV_f ?_ | refine then_e ?_ | refine then_r ?_ | refine block_n ?_ | refine block_r ?_ | refine block_e ?_ | refine aw_block ?_ | refine aw_skip ?_ | refine aw_ret ?_ | refine aw_exit ?_ | refine aw_loop ?_ | refine aw_condc_t ?_ | refine aw_condc_f ?_ | refine draw_nil ?_ | refine regD fun K hK => ?_)
        | (with_reducible refine hK _ ?_; clear hK K)
        | (with_reducible refine hK _ _ ?_ ?_; (· kernel_rfl); clear hK K)
        | ((with_reducible first | refine gO_some ?_ ?_ | refine aw_condE ?_ ?_ | refine block_o ?_ ?_); (· decide))
        | (with_reducible refine aw_drawB tk0 lv_trammel_cut_divided ?_ ?_; (· kernel_rfl))
        | ((with_reducible first | refine guardG_b (fun hc => ?_) (fun hc => ?_) | refine condV_b (fun hc => ?_) (fun hc => ?_)) <;> (try simp only [decide_eq_true_eq, decide_eq_false_iff_not, Bool.not_true, Bool.not_false, Bool.not_eq_true', Bool.not_eq_false'] at hc) <;> (try (exfalso; omega)))
        | (with_reducible refine and_i ?_ ?_; (· first | omega | assumption | (refine ⟨?_, ?_⟩ <;> (first | omega | assumption | (simp only [List.length_append, List.length_map, List.length_cons, List.length_nil] <;> omega))) | (refine ⟨?_, ?_, ?_⟩ <;> (first | omega | assumption | (simp only [List.length_append, List.length_map, List.length_cons, List.length_nil] <;> omega))) | (simp only [List.length_append, List.length_map, List.length_cons, List.length_nil] <;> omega)))
        | (with_reducible refine ex_seal ?_)
        | fail)
    | false =>
    rw [if_neg (by decide)]
    generalize soundN ⟨upZ c div, outT ts div vs⟩ = q at *
    obtain ⟨e, l⟩ := q
    by_cases he : e = 0
    · subst he
      rw [resL_0] at hso ⊢
      repeat' (first
        | (with_reducible refine hY _ ?_; clear hY Y)
        | ((with_reducible first | refine run_n rfl (runN fun K' hK' => todo ?_) | refine hK' _ (eqTo2 fun Y hY => todo ?_) | refine run_g rfl (eqTo2 fun Y hY => todo ?_) | refine eqTo2 fun Y hY => todo ?_ | refine runN fun K' hK' => todo ?_ | refine aw_regionB tk0 lv_trammel_cut_divided (eqTo2 fun Y hY => todo ?_) | refine todo ?_ | refine qretT_r ?_ | refine draw_n rfl (drawN fun K' hK' => todo ?_) | refine hK' _ _ (eqTo2 fun Y hY => todo ?_) | refine draw_g rfl (eqTo2 fun Y hY => todo ?_) | refine drawN fun K' hK' => todo ?_ | refine qretT_n ?_); (try clear hK' K'); (try dsimp only [aop]); try simp only [go_sem, ↓reduceIte, Nat.reduceEqDiff, Nat.reduceLT, Nat.reduceLeDiff, Nat.reduceAdd, Nat.reduceSub, Nat.reduceMul, Nat.reduceBEq, Nat.reduceBNe, Nat.reducePow, Int.reduceToNat, Int.reduceLE, Int.reduceLT, Int.reduceMul, Int.reduceEq, Int.reducePow, Int.reduceAdd, Int.reduceSub, Int.reduceNeg, reduceCtorEq, lv_trammel_cut_divided, Try.results17, hlt'])
        | (with_reducible first | refine run_nil ?_ | refine guardG_n rfl ?_ | refine guardG_y ?_ | refine guardG_u ?_ | refine andD ?_ ?_ | refine then_n ?_ | refine aw_seq ?_ | refine regN fun K hK => ?_ | refine condV_t ?_ | refine condV_f ?_ | refine then_e ?_ | refine then_r ?_ | refine block_n ?_ | refine block_r ?_ | refine block_e ?_ | refine aw_block ?_ | refine aw_skip ?_ | refine aw_ret ?_ | refine aw_exit ?_ | refine aw_loop ?_ | refine aw_condc_t ?_ | refine aw_condc_f ?_ | refine draw_nil ?_ | refine regD fun K hK => ?_)
        | (with_reducible refine hK _ ?_; clear hK K)
        | (with_reducible refine hK _ _ ?_ ?_; (· kernel_rfl); clear hK K)
        | ((with_reducible first | refine gO_some ?_ ?_ | refine aw_condE ?_ ?_ | refine block_o ?_ ?_); (· decide))
        | (with_reducible refine aw_drawB tk0 lv_trammel_cut_divided ?_ ?_; (· kernel_rfl))
        | ((with_reducible first | refine guardG_b (fun hc => ?_) (fun hc => ?_) | refine condV_b (fun hc => ?_) (fun hc => ?_)) <;> (try simp only [decide_eq_true_eq, decide_eq_false_iff_not, Bool.not_true, Bool.not_false, Bool.not_eq_true', Bool.not_eq_false'] at hc) <;> (try (exfalso; omega)))
        | (with_reducible refine and_i ?_ ?_; (· first | omega | assumption | (refine ⟨?_, ?_⟩ <;> (first | omega | assumption | (simp only [List.length_append, List.length_map, List.length_cons, List.length_nil] <;> omega))) | (refine ⟨?_, ?_, ?_⟩ <;> (first | omega | assumption | (simp only [List.length_append, List.length_map, List.length_cons, List.length_nil] <;> omega))) | (simp only [List.length_append, List.length_map, List.length_cons, List.length_nil] <;> omega)))
        | (with_reducible refine ex_callT (afn_frame hso ?_) ?_; (· simp [pureA]))
        | (with_reducible refine ex_seal ?_)
        | fail)
    · rw [resL_n he] at hso ⊢
      repeat' (first
        | (with_reducible refine hY _ ?_; clear hY Y)
        | ((with_reducible first | refine run_n rfl (runN fun K' hK' => todo ?_) | refine hK' _ (eqTo2 fun Y hY => todo ?_) | refine run_g rfl (eqTo2 fun Y hY => todo ?_) | refine eqTo2 fun Y hY => todo ?_ | refine runN fun K' hK' => todo ?_ | refine aw_regionB tk0 lv_trammel_cut_divided (eqTo2 fun Y hY => todo ?_) | refine todo ?_ | refine qretT_r ?_ | refine draw_n rfl (drawN fun K' hK' => todo ?_) | refine hK' _ _ (eqTo2 fun Y hY => todo ?_) | refine draw_g rfl (eqTo2 fun Y hY => todo ?_) | refine drawN fun K' hK' => todo ?_ | refine qretT_n ?_); (try clear hK' K'); (try dsimp only [aop]); try simp only [go_sem, ↓reduceIte, Nat.reduceEqDiff, Nat.reduceLT, Nat.reduceLeDiff, Nat.reduceAdd, Nat.reduceSub, Nat.reduceMul, Nat.reduceBEq, Nat.reduceBNe, Nat.reducePow, Int.reduceToNat, Int.reduceLE, Int.reduceLT, Int.reduceMul, Int.reduceEq, Int.reducePow, Int.reduceAdd, Int.reduceSub, Int.reduceNeg, reduceCtorEq, lv_trammel_cut_divided, Try.results17, hlt'])
        | (with_reducible first | refine run_nil ?_ | refine guardG_n rfl ?_ | refine guardG_y ?_ | refine guardG_u ?_ | refine andD ?_ ?_ | refine then_n ?_ | refine aw_seq ?_ | refine regN fun K hK => ?_ | refine condV_t ?_ | refine condV_f ?_ | refine then_e ?_ | refine then_r ?_ | refine block_n ?_ | refine block_r ?_ | refine block_e ?_ | refine aw_block ?_ | refine aw_skip ?_ | refine aw_ret ?_ | refine aw_exit ?_ | refine aw_loop ?_ | refine aw_condc_t ?_ | refine aw_condc_f ?_ | refine draw_nil ?_ | refine regD fun K hK => ?_)
        | (with_reducible refine hK _ ?_; clear hK K)
        | (with_reducible refine hK _ _ ?_ ?_; (· kernel_rfl); clear hK K)
        | ((with_reducible first | refine gO_some ?_ ?_ | refine aw_condE ?_ ?_ | refine block_o ?_ ?_); (· decide))
        | (with_reducible refine aw_drawB tk0 lv_trammel_cut_divided ?_ ?_; (· kernel_rfl))
        | ((with_reducible first | refine guardG_b (fun hc => ?_) (fun hc => ?_) | refine condV_b (fun hc => ?_) (fun hc => ?_)) <;> (try simp only [decide_eq_true_eq, decide_eq_false_iff_not, Bool.not_true, Bool.not_false, Bool.not_eq_true', Bool.not_eq_false'] at hc) <;> (try (exfalso; omega)))
        | (with_reducible refine and_i ?_ ?_; (· first | omega | assumption | (refine ⟨?_, ?_⟩ <;> (first | omega | assumption | (simp only [List.length_append, List.length_map, List.length_cons, List.length_nil] <;> omega))) | (refine ⟨?_, ?_, ?_⟩ <;> (first | omega | assumption | (simp only [List.length_append, List.length_map, List.length_cons, List.length_nil] <;> omega))) | (simp only [List.length_append, List.length_map, List.length_cons, List.length_nil] <;> omega)))
        | (with_reducible refine ex_callT (afn_frame hso ?_) ?_; (· simp [pureA]))
        | (with_reducible refine ex_seal ?_)
        | fail)
end Go.Proofs.Ytjabaenpkimmjaa
