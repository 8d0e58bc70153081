/- Texts as lists of bytes, in K. -/
import Derived.Test.YteohaabijmdkgaaDoorRun
import Derived.Test.YteohaabijmdkgaaDoorFm
import Derived.Laws.Cover1
namespace Go.Proofs.YteohaabijmdkgaaDoor
set_option linter.unusedSimpArgs false
set_option linter.unusedVariables false
open Go.RowKit
attribute [go_sem] bs List.size_toArray
@[go_sem] theorem size_l (l : List UInt8) : (ByteArray.mk l.toArray).size = l.length := rfl
@[go_sem] theorem data_l (l : List UInt8) : (ByteArray.mk l.toArray).data.toList = l := rfl
@[go_sem] theorem toList_l (l : List UInt8) : (ByteArray.mk l.toArray).toList = l := by
  rw [Lib.toList_data]
attribute [go_sem] ByteArray.extract_mk
@[go_sem] theorem take_rest (l : List UInt8) (a : Nat) : (l.drop a).take (l.length - a) = l.drop a := List.take_of_length_le (by simp)
theorem idx_ext (l : List UInt8) (c : UInt8) : ∀ w, (callFunc 43 #[.string ⟨l.toArray⟩, .int .u8 (c.toNat : Int)]).run Tryd.prog w = .ok (.value (.int .i64 (Lib.indexByte l c))) w := fun w => by
  rw [@run_callFunc_indexByte Tryd.prog 43 _ Tryd.func43 (by kernel_rfl) (by kernel_rfl) (by kernel_rfl) (by kernel_rfl), Lib.run_indexByteString]
  simp [Result.andThen]
def lv_internal_stringslite_IndexByte : Nat → List Nat
  | 0 => [0, 1]
  | 1 => [0, 1]
  | _ => []
set_option maxRecDepth 100000 in
theorem idxByte_k (l : List UInt8) (c : UInt8) : AFn Tryd.prog 39 [bs l, .c (.int .u8 (c.toNat : Int))] [] (.c (.int .i64 (Lib.indexByte l c))) [] := by
  refine afn_of [] Tryd.func39 rfl Tryd.ntmps39 (Nat.le_of_ble_eq_true rfl) (Nat.le_of_ble_eq_true rfl) fun w0 G0 B0 Pr hB0 => ?_
  simp only [start, argMap, List.cons_append, List.nil_append, bs]
  repeat' (first
    | (with_reducible refine hY _ ?_; clear hY Y)
    | ((with_reducible first | refine run_n rfl (runN fun K' hK' => todo ?_) | refine hK' _ (eqTo2 fun Y hY => todo ?_) | refine run_g rfl (eqTo2 fun Y hY => todo ?_) | refine eqTo2 fun Y hY => todo ?_ | refine runN fun K' hK' => todo ?_ | refine aw_regionB tk0 lv_internal_stringslite_IndexByte (eqTo2 fun Y hY => todo ?_) | refine todo ?_ | refine qretT_r ?_ | refine draw_n rfl (drawN fun K' hK' => todo ?_) | refine hK' _ _ (eqTo2 fun Y hY => todo ?_) | refine draw_g rfl (eqTo2 fun Y hY => todo ?_) | refine drawN fun K' hK' => todo ?_ | refine qretT_n ?_); (try clear hK' K'); (try dsimp only [aop]); try simp only [go_sem, ↓reduceIte, Nat.reduceEqDiff, Nat.reduceLT, Nat.reduceLeDiff, Nat.reduceAdd, Nat.reduceSub, Nat.reduceMul, Nat.reduceBEq, Nat.reduceBNe, Nat.reducePow, Int.reduceToNat, Int.reduceLE, Int.reduceLT, Int.reduceMul, Int.reduceEq, Int.reducePow, Int.reduceAdd, Int.reduceSub, Int.reduceNeg, reduceCtorEq, lv_internal_stringslite_IndexByte, Tryd.results39])
    | (with_reducible first | refine run_nil ?_ | refine guardG_n rfl ?_ | refine guardG_y ?_ | refine guardG_u ?_ | refine andD ?_ ?_ | refine then_n ?_ | refine aw_seq ?_ | refine regN fun K hK => ?_ | refine condV_t ?_ | refine condV_f ?_ | refine then_e ?_ | refine then_r ?_ | refine block_n ?_ | refine block_r ?_ | refine block_e ?_ | refine aw_block ?_ | refine aw_skip ?_ | refine aw_ret ?_ | refine aw_exit ?_ | refine aw_loop ?_ | refine aw_condc_t ?_ | refine aw_condc_f ?_ | refine draw_nil ?_ | refine regD fun K hK => ?_)
    | (with_reducible refine hK _ ?_; clear hK K)
    | (with_reducible refine hK _ _ ?_ ?_; (· kernel_rfl); clear hK K)
    | ((with_reducible first | refine gO_some ?_ ?_ | refine aw_condE ?_ ?_ | refine block_o ?_ ?_); (· decide))
    | (with_reducible refine aw_drawB tk0 lv_internal_stringslite_IndexByte ?_ ?_; (· kernel_rfl))
    | ((with_reducible first | refine guardG_b (fun hc => ?_) (fun hc => ?_) | refine condV_b (fun hc => ?_) (fun hc => ?_)) <;> (try simp only [decide_eq_true_eq, decide_eq_false_iff_not, Bool.not_true, Bool.not_false, Bool.not_eq_true', Bool.not_eq_false'] at hc) <;> (try (exfalso; omega)))
    | (with_reducible refine and_i ?_ ?_; (· first | omega | assumption | (refine ⟨?_, ?_⟩ <;> (first | omega | assumption | (simp only [List.length_append, List.length_map, List.length_cons, List.length_nil] <;> omega))) | (refine ⟨?_, ?_, ?_⟩ <;> (first | omega | assumption | (simp only [List.length_append, List.length_map, List.length_cons, List.length_nil] <;> omega))) | (simp only [List.length_append, List.length_map, List.length_cons, List.length_nil] <;> omega)))
    | (with_reducible refine ex_okN (idx_ext l c) ?_)
    | (with_reducible refine ex_seal ?_)
    | fail)
theorem indexByte_le (l : List UInt8) (c : UInt8) : Lib.indexByte l c = if l.contains c then ((l.takeWhile (· != c)).length : Int) else -1 := by
  induction l with
  | nil => rfl
  | cons b l ih =>
    unfold Lib.indexByte
    by_cases h : b = c
    · subst h; simp [List.takeWhile_cons]
    · have h' : ¬ c = b := fun e => h e.symm
      rw [ih]
      by_cases hc : l.contains c = true
      · have hm := List.contains_iff_mem.1 hc
        have hm2 : c ∈ b :: l := List.mem_cons_of_mem _ hm
        simp [h, h', hm, List.takeWhile_cons]
      · have hm : ¬ c ∈ l := fun e => hc (List.contains_iff_mem.2 e)
        simp [h, h', hm]
theorem tw_all {l : List UInt8} {c : UInt8} (h : ¬ l.contains c = true) : l.takeWhile (· != c) = l := by
  induction l with
  | nil => rfl
  | cons b l ih =>
    have h1 : b ≠ c := fun e => h (by subst e; simp)
    have h2 : ¬ l.contains c = true := fun e => h (List.contains_iff_mem.2 (List.mem_cons_of_mem _ (List.contains_iff_mem.1 e)))
    rw [List.takeWhile_cons, if_pos (by simpa using h1), ih h2]
theorem tw_take (l : List UInt8) (c : UInt8) : l.take (l.takeWhile (· != c)).length = l.takeWhile (· != c) := (List.prefix_iff_eq_take.1 (List.takeWhile_prefix _)).symm
theorem tw_lt {l : List UInt8} {c : UInt8} (h : l.contains c = true) : (l.takeWhile (· != c)).length < l.length := by
  induction l with
  | nil => simp at h
  | cons b l ih =>
    rw [List.takeWhile_cons]
    split
    · rename_i hb
      have h2 : l.contains c = true := by
        have := List.contains_iff_mem.1 h
        rcases List.mem_cons.1 this with e | e
        · subst e; simp at hb
        · exact List.contains_iff_mem.2 e
      have := ih h2
      simp only [List.length_cons]; omega
    · simp
def lv_internal_stringslite_Index : Nat → List Nat
  | 0 => [0, 1]
  | 1 => [0, 1]
  | 2 => [0, 1, 5]
  | 3 => []
  | 4 => [0, 1, 5]
  | 5 => [0, 1]
  | 6 => [0, 1, 5]
  | 7 => []
  | 8 => [0, 1, 5]
  | 9 => [0, 1]
  | 10 => [0, 1, 5]
  | 11 => [0, 1, 5, 6]
  | 12 => [0, 1, 5, 6, 7]
  | 13 => [0, 1, 5, 6, 7, 8]
  | 14 => [0, 1, 5, 6, 7, 8, 9]
  | 15 => [0, 1, 5, 6, 7, 8, 9, 10]
  | 16 => [0, 1, 5, 6, 7, 8, 9, 10]
  | 17 => [0, 1, 5, 6, 7, 8, 9, 10]
  | 18 => [0, 1, 5, 6, 7, 8, 9, 10, 11]
  | 19 => []
  | 20 => [0, 1, 5, 6, 7, 8, 9, 10, 11]
  | 21 => [0, 1, 5, 6, 7, 8, 9, 10]
  | 22 => [8]
  | 23 => [0, 1, 5, 6, 7, 8, 9, 10]
  | 24 => [0, 1, 5, 6, 7, 8, 9, 10]
  | 25 => [0, 1, 5, 6, 7, 8, 9, 10]
  | 26 => [0, 1, 8]
  | 27 => [8, 12]
  | 28 => [8, 12]
  | 29 => []
  | 30 => [0, 1, 5, 6, 7, 8, 9, 10]
  | 31 => [0, 1, 8]
  | 32 => [8, 13]
  | 33 => []
  | 34 => [8, 13]
  | 35 => []
  | _ => []
set_option maxRecDepth 100000 in
set_option maxHeartbeats 4000000 in
theorem index_k (l : List UInt8) (c : UInt8) : AFn Tryd.prog 40 [bs l, bs [c]] [] (.c (.int .i64 (Lib.indexByte l c))) [] := by
  have hi := idxByte_k l c
  unfold bs at hi
  refine afn_of [] Tryd.func40 rfl Tryd.ntmps40 (Nat.le_of_ble_eq_true rfl) (Nat.le_of_ble_eq_true rfl) fun w0 G0 B0 Pr hB0 => ?_
  simp only [start, argMap, List.cons_append, List.nil_append, bs]
  by_cases h : [c] = l
  · subst h
    have h1 : Lib.indexByte [c] c = 0 := by simp [Lib.indexByte]
    rw [h1]
    repeat' (first
      | (with_reducible refine hY _ ?_; clear hY Y)
      | ((with_reducible first | refine run_n rfl (runN fun K' hK' => todo ?_) | refine hK' _ (eqTo2 fun Y hY => todo ?_) | refine run_g rfl (eqTo2 fun Y hY => todo ?_) | refine eqTo2 fun Y hY => todo ?_ | refine runN fun K' hK' => todo ?_ | refine aw_regionB tk0 lv_internal_stringslite_Index (eqTo2 fun Y hY => todo ?_) | refine todo ?_ | refine qretT_r ?_ | refine draw_n rfl (drawN fun K' hK' => todo ?_) | refine hK' _ _ (eqTo2 fun Y hY => todo ?_) | refine draw_g rfl (eqTo2 fun Y hY => todo ?_) | refine drawN fun K' hK' => todo ?_ | refine qretT_n ?_); (try clear hK' K'); (try dsimp only [aop]); try simp only [go_sem, ↓reduceIte, Nat.reduceEqDiff, Nat.reduceLT, Nat.reduceLeDiff, Nat.reduceAdd, Nat.reduceSub, Nat.reduceMul, Nat.reduceBEq, Nat.reduceBNe, Nat.reducePow, Int.reduceToNat, Int.reduceLE, Int.reduceLT, Int.reduceMul, Int.reduceEq, Int.reducePow, Int.reduceAdd, Int.reduceSub, Int.reduceNeg, reduceCtorEq, lv_internal_stringslite_Index, Tryd.results40, beq_self_eq_true])
      | (with_reducible first | refine run_nil ?_ | refine guardG_n rfl ?_ | refine guardG_y ?_ | refine guardG_u ?_ | refine andD ?_ ?_ | refine then_n ?_ | refine aw_seq ?_ | refine regN fun K hK => ?_ | refine condV_t ?_ | refine condV_f ?_ | refine then_e ?_ | refine then_r ?_ | refine block_n ?_ | refine block_r ?_ | refine block_e ?_ | refine aw_block ?_ | refine aw_skip ?_ | refine aw_ret ?_ | refine aw_exit ?_ | refine aw_loop ?_ | refine aw_condc_t ?_ | refine aw_condc_f ?_ | refine draw_nil ?_ | refine regD fun K hK => ?_)
      | (with_reducible refine hK _ ?_; clear hK K)
      | (with_reducible refine hK _ _ ?_ ?_; (· kernel_rfl); clear hK K)
      | ((with_reducible first | refine gO_some ?_ ?_ | refine aw_condE ?_ ?_ | refine block_o ?_ ?_); (· decide))
      | (with_reducible refine aw_drawB tk0 lv_internal_stringslite_Index ?_ ?_; (· kernel_rfl))
      | ((with_reducible first | refine guardG_b (fun hc => ?_) (fun hc => ?_) | refine condV_b (fun hc => ?_) (fun hc => ?_)) <;> (try simp only [decide_eq_true_eq, decide_eq_false_iff_not, Bool.not_true, Bool.not_false, Bool.not_eq_true', Bool.not_eq_false'] at hc) <;> (try (exfalso; omega)))
      | (with_reducible refine and_i ?_ ?_; (· first | omega | assumption | (refine ⟨?_, ?_⟩ <;> (first | omega | assumption | (simp only [List.length_append, List.length_map, List.length_cons, List.length_nil] <;> omega))) | (refine ⟨?_, ?_, ?_⟩ <;> (first | omega | assumption | (simp only [List.length_append, List.length_map, List.length_cons, List.length_nil] <;> omega))) | (simp only [List.length_append, List.length_map, List.length_cons, List.length_nil] <;> omega)))
      | (with_reducible refine ex_okT (eql_pure _) ?_)
      | (with_reducible refine ex_seal ?_)
      | fail)
  · have h1 : ([c] == l) = false := by simpa using h
    repeat' (first
      | (with_reducible refine hY _ ?_; clear hY Y)
      | ((with_reducible first | refine run_n rfl (runN fun K' hK' => todo ?_) | refine hK' _ (eqTo2 fun Y hY => todo ?_) | refine run_g rfl (eqTo2 fun Y hY => todo ?_) | refine eqTo2 fun Y hY => todo ?_ | refine runN fun K' hK' => todo ?_ | refine aw_regionB tk0 lv_internal_stringslite_Index (eqTo2 fun Y hY => todo ?_) | refine todo ?_ | refine qretT_r ?_ | refine draw_n rfl (drawN fun K' hK' => todo ?_) | refine hK' _ _ (eqTo2 fun Y hY => todo ?_) | refine draw_g rfl (eqTo2 fun Y hY => todo ?_) | refine drawN fun K' hK' => todo ?_ | refine qretT_n ?_); (try clear hK' K'); (try dsimp only [aop]); try simp only [go_sem, ↓reduceIte, Nat.reduceEqDiff, Nat.reduceLT, Nat.reduceLeDiff, Nat.reduceAdd, Nat.reduceSub, Nat.reduceMul, Nat.reduceBEq, Nat.reduceBNe, Nat.reducePow, Int.reduceToNat, Int.reduceLE, Int.reduceLT, Int.reduceMul, Int.reduceEq, Int.reducePow, Int.reduceAdd, Int.reduceSub, Int.reduceNeg, reduceCtorEq, lv_internal_stringslite_Index, Tryd.results40, h1])
      | (with_reducible first | refine run_nil ?_ | refine guardG_n rfl ?_ | refine guardG_y ?_ | refine guardG_u ?_ | refine andD ?_ ?_ | refine then_n ?_ | refine aw_seq ?_ | refine regN fun K hK => ?_ | refine condV_t ?_ | refine condV_f ?_ | refine then_e ?_ | refine then_r ?_ | refine block_n ?_ | refine block_r ?_ | refine block_e ?_ | refine aw_block ?_ | refine aw_skip ?_ | refine aw_ret ?_ | refine aw_exit ?_ | refine aw_loop ?_ | refine aw_condc_t ?_ | refine aw_condc_f ?_ | refine draw_nil ?_ | refine regD fun K hK => ?_)
      | (with_reducible refine hK _ ?_; clear hK K)
      | (with_reducible refine hK _ _ ?_ ?_; (· kernel_rfl); clear hK K)
      | ((with_reducible first | refine gO_some ?_ ?_ | refine aw_condE ?_ ?_ | refine block_o ?_ ?_); (· decide))
      | (with_reducible refine aw_drawB tk0 lv_internal_stringslite_Index ?_ ?_; (· kernel_rfl))
      | ((with_reducible first | refine guardG_b (fun hc => ?_) (fun hc => ?_) | refine condV_b (fun hc => ?_) (fun hc => ?_)) <;> (try simp only [decide_eq_true_eq, decide_eq_false_iff_not, Bool.not_true, Bool.not_false, Bool.not_eq_true', Bool.not_eq_false'] at hc) <;> (try (exfalso; omega)))
      | (with_reducible refine and_i ?_ ?_; (· first | omega | assumption | (refine ⟨?_, ?_⟩ <;> (first | omega | assumption | (simp only [List.length_append, List.length_map, List.length_cons, List.length_nil] <;> omega))) | (refine ⟨?_, ?_, ?_⟩ <;> (first | omega | assumption | (simp only [List.length_append, List.length_map, List.length_cons, List.length_nil] <;> omega))) | (simp only [List.length_append, List.length_map, List.length_cons, List.length_nil] <;> omega)))
      | (with_reducible refine ex_okT (eql_pure _) ?_)
      | (with_reducible refine ex_callT (hi) ?_)
      | (with_reducible refine ex_seal ?_)
      | fail)
def lv_internal_stringslite_Cut : Nat → List Nat
  | 0 => [0, 1]
  | 1 => [0, 1]
  | 2 => [0, 1, 7]
  | 3 => [0, 1, 7]
  | 4 => [0]
  | _ => []
def lv_strings_Cut : Nat → List Nat
  | 0 => [0, 1]
  | 1 => [0, 1]
  | _ => []
def cutA (l : List UInt8) (c : UInt8) : AV := .tup [bs (l.takeWhile (· != c)), bs (l.drop ((l.takeWhile (· != c)).length + 1)), .c (.bool (l.contains c))]
set_option maxRecDepth 100000 in
set_option maxHeartbeats 4000000 in
theorem cut_k0 (l : List UInt8) (c : UInt8) (hl : l.length ≤ 4611686018427387904) : AFn Tryd.prog 30 [bs l, bs [c]] [] (cutA l c) [] := by
  have hi := index_k l c
  have e := indexByte_le l c
  unfold bs at hi
  unfold cutA
  by_cases hcc : l.contains c = true
  · have hlt := tw_lt hcc
    have ht := tw_take l c
    rw [if_pos hcc] at e
    rw [e] at hi
    generalize hn : (l.takeWhile (· != c)).length = n at *
    have h0 : ¬ ((n : Int) < 0) := by omega
    have hw : IntKind.i64.wrap ((n : Int) + ((1 : Nat) : Int)) = ((n + 1 : Nat) : Int) := by rw [wrap_i64 (by omega) (by omega)]; rfl
    refine afn_of [] Tryd.func30 rfl Tryd.ntmps30 (Nat.le_of_ble_eq_true rfl) (Nat.le_of_ble_eq_true rfl) fun w0 G0 B0 Pr hB0 => ?_
    simp only [start, argMap, List.cons_append, List.nil_append, bs]
    repeat' (first
      | (with_reducible refine hY _ ?_; clear hY Y)
      | ((with_reducible first | refine run_n rfl (runN fun K' hK' => todo ?_) | refine hK' _ (eqTo2 fun Y hY => todo ?_) | refine run_g rfl (eqTo2 fun Y hY => todo ?_) | refine eqTo2 fun Y hY => todo ?_ | refine runN fun K' hK' => todo ?_ | refine aw_regionB tk0 lv_internal_stringslite_Cut (eqTo2 fun Y hY => todo ?_) | refine todo ?_ | refine qretT_r ?_ | refine draw_n rfl (drawN fun K' hK' => todo ?_) | refine hK' _ _ (eqTo2 fun Y hY => todo ?_) | refine draw_g rfl (eqTo2 fun Y hY => todo ?_) | refine drawN fun K' hK' => todo ?_ | refine qretT_n ?_); (try clear hK' K'); (try dsimp only [aop]); try simp only [go_sem, ↓reduceIte, Nat.reduceEqDiff, Nat.reduceLT, Nat.reduceLeDiff, Nat.reduceAdd, Nat.reduceSub, Nat.reduceMul, Nat.reduceBEq, Nat.reduceBNe, Nat.reducePow, Int.reduceToNat, Int.reduceLE, Int.reduceLT, Int.reduceMul, Int.reduceEq, Int.reducePow, Int.reduceAdd, Int.reduceSub, Int.reduceNeg, reduceCtorEq, lv_internal_stringslite_Cut, Tryd.results30, h0, hw])
      | (with_reducible first | refine run_nil ?_ | refine guardG_n rfl ?_ | refine guardG_y ?_ | refine guardG_u ?_ | refine andD ?_ ?_ | refine then_n ?_ | refine aw_seq ?_ | refine regN fun K hK => ?_ | refine condV_t ?_ | refine condV_f ?_ | refine then_e ?_ | refine then_r ?_ | refine block_n ?_ | refine block_r ?_ | refine block_e ?_ | refine aw_block ?_ | refine aw_skip ?_ | refine aw_ret ?_ | refine aw_exit ?_ | refine aw_loop ?_ | refine aw_condc_t ?_ | refine aw_condc_f ?_ | refine draw_nil ?_ | refine regD fun K hK => ?_)
      | (with_reducible refine hK _ ?_; clear hK K)
      | (with_reducible refine hK _ _ ?_ ?_; (· kernel_rfl); clear hK K)
      | ((with_reducible first | refine gO_some ?_ ?_ | refine aw_condE ?_ ?_ | refine block_o ?_ ?_); (· decide))
      | (with_reducible refine aw_drawB tk0 lv_internal_stringslite_Cut ?_ ?_; (· kernel_rfl))
      | ((with_reducible first | refine guardG_b (fun hc => ?_) (fun hc => ?_) | refine condV_b (fun hc => ?_) (fun hc => ?_)) <;> (try simp only [decide_eq_true_eq, decide_eq_false_iff_not, Bool.not_true, Bool.not_false, Bool.not_eq_true', Bool.not_eq_false'] at hc) <;> (try (exfalso; omega)))
      | (with_reducible refine and_i ?_ ?_; (· first | omega | assumption | (refine ⟨?_, ?_⟩ <;> (first | omega | assumption | (simp only [List.length_append, List.length_map, List.length_cons, List.length_nil] <;> omega))) | (refine ⟨?_, ?_, ?_⟩ <;> (first | omega | assumption | (simp only [List.length_append, List.length_map, List.length_cons, List.length_nil] <;> omega))) | (simp only [List.length_append, List.length_map, List.length_cons, List.length_nil] <;> omega)))
      | (with_reducible refine ex_callT (hi) ?_)
      | (with_reducible refine ex_seal ?_)
      | fail)
    simp only [bs, ht, hcc, hn]
  · rw [if_neg hcc] at e
    rw [e] at hi
    have ht := tw_all hcc
    refine afn_of [] Tryd.func30 rfl Tryd.ntmps30 (Nat.le_of_ble_eq_true rfl) (Nat.le_of_ble_eq_true rfl) fun w0 G0 B0 Pr hB0 => ?_
    simp only [start, argMap, List.cons_append, List.nil_append, bs]
    repeat' (first
      | (with_reducible refine hY _ ?_; clear hY Y)
      | ((with_reducible first | refine run_n rfl (runN fun K' hK' => todo ?_) | refine hK' _ (eqTo2 fun Y hY => todo ?_) | refine run_g rfl (eqTo2 fun Y hY => todo ?_) | refine eqTo2 fun Y hY => todo ?_ | refine runN fun K' hK' => todo ?_ | refine aw_regionB tk0 lv_internal_stringslite_Cut (eqTo2 fun Y hY => todo ?_) | refine todo ?_ | refine qretT_r ?_ | refine draw_n rfl (drawN fun K' hK' => todo ?_) | refine hK' _ _ (eqTo2 fun Y hY => todo ?_) | refine draw_g rfl (eqTo2 fun Y hY => todo ?_) | refine drawN fun K' hK' => todo ?_ | refine qretT_n ?_); (try clear hK' K'); (try dsimp only [aop]); try simp only [go_sem, ↓reduceIte, Nat.reduceEqDiff, Nat.reduceLT, Nat.reduceLeDiff, Nat.reduceAdd, Nat.reduceSub, Nat.reduceMul, Nat.reduceBEq, Nat.reduceBNe, Nat.reducePow, Int.reduceToNat, Int.reduceLE, Int.reduceLT, Int.reduceMul, Int.reduceEq, Int.reducePow, Int.reduceAdd, Int.reduceSub, Int.reduceNeg, reduceCtorEq, lv_internal_stringslite_Cut, Tryd.results30])
      | (with_reducible first | refine run_nil ?_ | refine guardG_n rfl ?_ | refine guardG_y ?_ | refine guardG_u ?_ | refine andD ?_ ?_ | refine then_n ?_ | refine aw_seq ?_ | refine regN fun K hK => ?_ | refine condV_t ?_ | refine condV_f ?_ | refine then_e ?_ | refine then_r ?_ | refine block_n ?_ | refine block_r ?_ | refine block_e ?_ | refine aw_block ?_ | refine aw_skip ?_ | refine aw_ret ?_ | refine aw_exit ?_ | refine aw_loop ?_ | refine aw_condc_t ?_ | refine aw_condc_f ?_ | refine draw_nil ?_ | refine regD fun K hK => ?_)
      | (with_reducible refine hK _ ?_; clear hK K)
      | (with_reducible refine hK _ _ ?_ ?_; (· kernel_rfl); clear hK K)
      | ((with_reducible first | refine gO_some ?_ ?_ | refine aw_condE ?_ ?_ | refine block_o ?_ ?_); (· decide))
      | (with_reducible refine aw_drawB tk0 lv_internal_stringslite_Cut ?_ ?_; (· kernel_rfl))
      | ((with_reducible first | refine guardG_b (fun hc => ?_) (fun hc => ?_) | refine condV_b (fun hc => ?_) (fun hc => ?_)) <;> (try simp only [decide_eq_true_eq, decide_eq_false_iff_not, Bool.not_true, Bool.not_false, Bool.not_eq_true', Bool.not_eq_false'] at hc) <;> (try (exfalso; omega)))
      | (with_reducible refine and_i ?_ ?_; (· first | omega | assumption | (refine ⟨?_, ?_⟩ <;> (first | omega | assumption | (simp only [List.length_append, List.length_map, List.length_cons, List.length_nil] <;> omega))) | (refine ⟨?_, ?_, ?_⟩ <;> (first | omega | assumption | (simp only [List.length_append, List.length_map, List.length_cons, List.length_nil] <;> omega))) | (simp only [List.length_append, List.length_map, List.length_cons, List.length_nil] <;> omega)))
      | (with_reducible refine ex_callT (hi) ?_)
      | (with_reducible refine ex_seal ?_)
      | fail)
    rw [ht, Bool.eq_false_iff.2 hcc]
    simp [bs]
set_option maxRecDepth 100000 in
theorem cut_k (l : List UInt8) (c : UInt8) (hl : l.length ≤ 4611686018427387904) : AFn Tryd.prog 19 [bs l, bs [c]] [] (cutA l c) [] := by
  have h := cut_k0 l c hl
  unfold bs cutA bs at h
  unfold cutA
  refine afn_of [] Tryd.func19 rfl Tryd.ntmps19 (Nat.le_of_ble_eq_true rfl) (Nat.le_of_ble_eq_true rfl) fun w0 G0 B0 Pr hB0 => ?_
  simp only [start, argMap, List.cons_append, List.nil_append, bs]
  repeat' (first
    | (with_reducible refine hY _ ?_; clear hY Y)
    | ((with_reducible first | refine run_n rfl (runN fun K' hK' => todo ?_) | refine hK' _ (eqTo2 fun Y hY => todo ?_) | refine run_g rfl (eqTo2 fun Y hY => todo ?_) | refine eqTo2 fun Y hY => todo ?_ | refine runN fun K' hK' => todo ?_ | refine aw_regionB tk0 lv_strings_Cut (eqTo2 fun Y hY => todo ?_) | refine todo ?_ | refine qretT_r ?_ | refine draw_n rfl (drawN fun K' hK' => todo ?_) | refine hK' _ _ (eqTo2 fun Y hY => todo ?_) | refine draw_g rfl (eqTo2 fun Y hY => todo ?_) | refine drawN fun K' hK' => todo ?_ | refine qretT_n ?_); (try clear hK' K'); (try dsimp only [aop]); try simp only [go_sem, ↓reduceIte, Nat.reduceEqDiff, Nat.reduceLT, Nat.reduceLeDiff, Nat.reduceAdd, Nat.reduceSub, Nat.reduceMul, Nat.reduceBEq, Nat.reduceBNe, Nat.reducePow, Int.reduceToNat, Int.reduceLE, Int.reduceLT, Int.reduceMul, Int.reduceEq, Int.reducePow, Int.reduceAdd, Int.reduceSub, Int.reduceNeg, reduceCtorEq, lv_strings_Cut, Tryd.results19])
    | (with_reducible first | refine run_nil ?_ | refine guardG_n rfl ?_ | refine guardG_y ?_ | refine guardG_u ?_ | refine andD ?_ ?_ | refine then_n ?_ | refine aw_seq ?_ | refine regN fun K hK => ?_ | refine condV_t ?_ | refine condV_f ?_ | refine then_e ?_ | refine then_r ?_ | refine block_n ?_ | refine block_r ?_ | refine block_e ?_ | refine aw_block ?_ | refine aw_skip ?_ | refine aw_ret ?_ | refine aw_exit ?_ | refine aw_loop ?_ | refine aw_condc_t ?_ | refine aw_condc_f ?_ | refine draw_nil ?_ | refine regD fun K hK => ?_)
    | (with_reducible refine hK _ ?_; clear hK K)
    | (with_reducible refine hK _ _ ?_ ?_; (· kernel_rfl); clear hK K)
    | ((with_reducible first | refine gO_some ?_ ?_ | refine aw_condE ?_ ?_ | refine block_o ?_ ?_); (· decide))
    | (with_reducible refine aw_drawB tk0 lv_strings_Cut ?_ ?_; (· kernel_rfl))
    | ((with_reducible first | refine guardG_b (fun hc => ?_) (fun hc => ?_) | refine condV_b (fun hc => ?_) (fun hc => ?_)) <;> (try simp only [decide_eq_true_eq, decide_eq_false_iff_not, Bool.not_true, Bool.not_false, Bool.not_eq_true', Bool.not_eq_false'] at hc) <;> (try (exfalso; omega)))
    | (with_reducible refine and_i ?_ ?_; (· first | omega | assumption | (refine ⟨?_, ?_⟩ <;> (first | omega | assumption | (simp only [List.length_append, List.length_map, List.length_cons, List.length_nil] <;> omega))) | (refine ⟨?_, ?_, ?_⟩ <;> (first | omega | assumption | (simp only [List.length_append, List.length_map, List.length_cons, List.length_nil] <;> omega))) | (simp only [List.length_append, List.length_map, List.length_cons, List.length_nil] <;> omega)))
    | (with_reducible refine ex_callT (h) ?_)
    | (with_reducible refine ex_seal ?_)
    | fail)
def lv_internal_stringslite_HasPrefix : Nat → List Nat
  | 0 => [0, 1]
  | 1 => [0, 1]
  | _ => []
def lv_strings_HasPrefix : Nat → List Nat
  | 0 => [0, 1]
  | 1 => [0, 1]
  | _ => []
set_option maxRecDepth 100000 in
set_option maxHeartbeats 4000000 in
theorem hasPre_k0 (l p : List UInt8) : AFn Tryd.prog 29 [bs l, bs p] [] (.c (.bool (p.isPrefixOf l))) [] := by
  have e : p.isPrefixOf l = (decide (p.length ≤ l.length) && (l.take p.length == p)) := by
    rw [Bool.eq_iff_iff, List.isPrefixOf_iff_prefix, List.prefix_iff_eq_take]
    simp only [Bool.and_eq_true, decide_eq_true_eq, beq_iff_eq]
    constructor
    · intro h
      have := congrArg List.length h
      rw [List.length_take] at this
      exact ⟨by omega, h.symm⟩
    · rintro ⟨_, h⟩; exact h.symm
  rw [e]
  refine afn_of [] Tryd.func29 rfl Tryd.ntmps29 (Nat.le_of_ble_eq_true rfl) (Nat.le_of_ble_eq_true rfl) fun w0 G0 B0 Pr hB0 => ?_
  simp only [start, argMap, List.cons_append, List.nil_append, bs]
  by_cases h : p.length ≤ l.length
  · have h1 : ((p.length : Int) ≤ (l.length : Int)) = True := by simp; omega
    repeat' (first
      | (with_reducible refine hY _ ?_; clear hY Y)
      | ((with_reducible first | refine run_n rfl (runN fun K' hK' => todo ?_) | refine hK' _ (eqTo2 fun Y hY => todo ?_) | refine run_g rfl (eqTo2 fun Y hY => todo ?_) | refine eqTo2 fun Y hY => todo ?_ | refine runN fun K' hK' => todo ?_ | refine aw_regionB tk0 lv_internal_stringslite_HasPrefix (eqTo2 fun Y hY => todo ?_) | refine todo ?_ | refine qretT_r ?_ | refine draw_n rfl (drawN fun K' hK' => todo ?_) | refine hK' _ _ (eqTo2 fun Y hY => todo ?_) | refine draw_g rfl (eqTo2 fun Y hY => todo ?_) | refine drawN fun K' hK' => todo ?_ | refine qretT_n ?_); (try clear hK' K'); (try dsimp only [aop]); try simp only [go_sem, ↓reduceIte, Nat.reduceEqDiff, Nat.reduceLT, Nat.reduceLeDiff, Nat.reduceAdd, Nat.reduceSub, Nat.reduceMul, Nat.reduceBEq, Nat.reduceBNe, Nat.reducePow, Int.reduceToNat, Int.reduceLE, Int.reduceLT, Int.reduceMul, Int.reduceEq, Int.reducePow, Int.reduceAdd, Int.reduceSub, Int.reduceNeg, reduceCtorEq, lv_internal_stringslite_HasPrefix, Tryd.results29, h1])
      | (with_reducible first | refine run_nil ?_ | refine guardG_n rfl ?_ | refine guardG_y ?_ | refine guardG_u ?_ | refine andD ?_ ?_ | refine then_n ?_ | refine aw_seq ?_ | refine regN fun K hK => ?_ | refine condV_t ?_ | refine condV_f ?_ | refine then_e ?_ | refine then_r ?_ | refine block_n ?_ | refine block_r ?_ | refine block_e ?_ | refine aw_block ?_ | refine aw_skip ?_ | refine aw_ret ?_ | refine aw_exit ?_ | refine aw_loop ?_ | refine aw_condc_t ?_ | refine aw_condc_f ?_ | refine draw_nil ?_ | refine regD fun K hK => ?_)
      | (with_reducible refine hK _ ?_; clear hK K)
      | (with_reducible refine hK _ _ ?_ ?_; (· kernel_rfl); clear hK K)
      | ((with_reducible first | refine gO_some ?_ ?_ | refine aw_condE ?_ ?_ | refine block_o ?_ ?_); (· decide))
      | (with_reducible refine aw_drawB tk0 lv_internal_stringslite_HasPrefix ?_ ?_; (· kernel_rfl))
      | ((with_reducible first | refine guardG_b (fun hc => ?_) (fun hc => ?_) | refine condV_b (fun hc => ?_) (fun hc => ?_)) <;> (try simp only [decide_eq_true_eq, decide_eq_false_iff_not, Bool.not_true, Bool.not_false, Bool.not_eq_true', Bool.not_eq_false'] at hc) <;> (try (exfalso; omega)))
      | (with_reducible refine and_i ?_ ?_; (· first | omega | assumption | (refine ⟨?_, ?_⟩ <;> (first | omega | assumption | (simp only [List.length_append, List.length_map, List.length_cons, List.length_nil] <;> omega))) | (refine ⟨?_, ?_, ?_⟩ <;> (first | omega | assumption | (simp only [List.length_append, List.length_map, List.length_cons, List.length_nil] <;> omega))) | (simp only [List.length_append, List.length_map, List.length_cons, List.length_nil] <;> omega)))
      | (with_reducible refine ex_okT (eql_pure _) ?_)
      | (with_reducible refine ex_seal ?_)
      | fail)
    simp [h]
  · have h1 : ((p.length : Int) ≤ (l.length : Int)) = False := by simp; omega
    repeat' (first
      | (with_reducible refine hY _ ?_; clear hY Y)
      | ((with_reducible first | refine run_n rfl (runN fun K' hK' => todo ?_) | refine hK' _ (eqTo2 fun Y hY => todo ?_) | refine run_g rfl (eqTo2 fun Y hY => todo ?_) | refine eqTo2 fun Y hY => todo ?_ | refine runN fun K' hK' => todo ?_ | refine aw_regionB tk0 lv_internal_stringslite_HasPrefix (eqTo2 fun Y hY => todo ?_) | refine todo ?_ | refine qretT_r ?_ | refine draw_n rfl (drawN fun K' hK' => todo ?_) | refine hK' _ _ (eqTo2 fun Y hY => todo ?_) | refine draw_g rfl (eqTo2 fun Y hY => todo ?_) | refine drawN fun K' hK' => todo ?_ | refine qretT_n ?_); (try clear hK' K'); (try dsimp only [aop]); try simp only [go_sem, ↓reduceIte, Nat.reduceEqDiff, Nat.reduceLT, Nat.reduceLeDiff, Nat.reduceAdd, Nat.reduceSub, Nat.reduceMul, Nat.reduceBEq, Nat.reduceBNe, Nat.reducePow, Int.reduceToNat, Int.reduceLE, Int.reduceLT, Int.reduceMul, Int.reduceEq, Int.reducePow, Int.reduceAdd, Int.reduceSub, Int.reduceNeg, reduceCtorEq, lv_internal_stringslite_HasPrefix, Tryd.results29, h1])
      | (with_reducible first | refine run_nil ?_ | refine guardG_n rfl ?_ | refine guardG_y ?_ | refine guardG_u ?_ | refine andD ?_ ?_ | refine then_n ?_ | refine aw_seq ?_ | refine regN fun K hK => ?_ | refine condV_t ?_ | refine condV_f ?_ | refine then_e ?_ | refine then_r ?_ | refine block_n ?_ | refine block_r ?_ | refine block_e ?_ | refine aw_block ?_ | refine aw_skip ?_ | refine aw_ret ?_ | refine aw_exit ?_ | refine aw_loop ?_ | refine aw_condc_t ?_ | refine aw_condc_f ?_ | refine draw_nil ?_ | refine regD fun K hK => ?_)
      | (with_reducible refine hK _ ?_; clear hK K)
      | (with_reducible refine hK _ _ ?_ ?_; (· kernel_rfl); clear hK K)
      | ((with_reducible first | refine gO_some ?_ ?_ | refine aw_condE ?_ ?_ | refine block_o ?_ ?_); (· decide))
      | (with_reducible refine aw_drawB tk0 lv_internal_stringslite_HasPrefix ?_ ?_; (· kernel_rfl))
      | ((with_reducible first | refine guardG_b (fun hc => ?_) (fun hc => ?_) | refine condV_b (fun hc => ?_) (fun hc => ?_)) <;> (try simp only [decide_eq_true_eq, decide_eq_false_iff_not, Bool.not_true, Bool.not_false, Bool.not_eq_true', Bool.not_eq_false'] at hc) <;> (try (exfalso; omega)))
      | (with_reducible refine and_i ?_ ?_; (· first | omega | assumption | (refine ⟨?_, ?_⟩ <;> (first | omega | assumption | (simp only [List.length_append, List.length_map, List.length_cons, List.length_nil] <;> omega))) | (refine ⟨?_, ?_, ?_⟩ <;> (first | omega | assumption | (simp only [List.length_append, List.length_map, List.length_cons, List.length_nil] <;> omega))) | (simp only [List.length_append, List.length_map, List.length_cons, List.length_nil] <;> omega)))
      | (with_reducible refine ex_okT (eql_pure _) ?_)
      | (with_reducible refine ex_seal ?_)
      | fail)
    simp [h]
set_option maxRecDepth 100000 in
theorem hasPre_k (l p : List UInt8) : AFn Tryd.prog 18 [bs l, bs p] [] (.c (.bool (p.isPrefixOf l))) [] := by
  have h := hasPre_k0 l p
  unfold bs at h
  refine afn_of [] Tryd.func18 rfl Tryd.ntmps18 (Nat.le_of_ble_eq_true rfl) (Nat.le_of_ble_eq_true rfl) fun w0 G0 B0 Pr hB0 => ?_
  simp only [start, argMap, List.cons_append, List.nil_append, bs]
  repeat' (first
    | (with_reducible refine hY _ ?_; clear hY Y)
    | ((with_reducible first | refine run_n rfl (runN fun K' hK' => todo ?_) | refine hK' _ (eqTo2 fun Y hY => todo ?_) | refine run_g rfl (eqTo2 fun Y hY => todo ?_) | refine eqTo2 fun Y hY => todo ?_ | refine runN fun K' hK' => todo ?_ | refine aw_regionB tk0 lv_strings_HasPrefix (eqTo2 fun Y hY => todo ?_) | refine todo ?_ | refine qretT_r ?_ | refine draw_n rfl (drawN fun K' hK' => todo ?_) | refine hK' _ _ (eqTo2 fun Y hY => todo ?_) | refine draw_g rfl (eqTo2 fun Y hY => todo ?_) | refine drawN fun K' hK' => todo ?_ | refine qretT_n ?_); (try clear hK' K'); (try dsimp only [aop]); try simp only [go_sem, ↓reduceIte, Nat.reduceEqDiff, Nat.reduceLT, Nat.reduceLeDiff, Nat.reduceAdd, Nat.reduceSub, Nat.reduceMul, Nat.reduceBEq, Nat.reduceBNe, Nat.reducePow, Int.reduceToNat, Int.reduceLE, Int.reduceLT, Int.reduceMul, Int.reduceEq, Int.reducePow, Int.reduceAdd, Int.reduceSub, Int.reduceNeg, reduceCtorEq, lv_strings_HasPrefix, Tryd.results18])
    | (with_reducible first | refine run_nil ?_ | refine guardG_n rfl ?_ | refine guardG_y ?_ | refine guardG_u ?_ | refine andD ?_ ?_ | refine then_n ?_ | refine aw_seq ?_ | refine regN fun K hK => ?_ | refine condV_t ?_ | refine condV_f ?_ | refine then_e ?_ | refine then_r ?_ | refine block_n ?_ | refine block_r ?_ | refine block_e ?_ | refine aw_block ?_ | refine aw_skip ?_ | refine aw_ret ?_ | refine aw_exit ?_ | refine aw_loop ?_ | refine aw_condc_t ?_ | refine aw_condc_f ?_ | refine draw_nil ?_ | refine regD fun K hK => ?_)
    | (with_reducible refine hK _ ?_; clear hK K)
    | (with_reducible refine hK _ _ ?_ ?_; (· kernel_rfl); clear hK K)
    | ((with_reducible first | refine gO_some ?_ ?_ | refine aw_condE ?_ ?_ | refine block_o ?_ ?_); (· decide))
    | (with_reducible refine aw_drawB tk0 lv_strings_HasPrefix ?_ ?_; (· kernel_rfl))
    | ((with_reducible first | refine guardG_b (fun hc => ?_) (fun hc => ?_) | refine condV_b (fun hc => ?_) (fun hc => ?_)) <;> (try simp only [decide_eq_true_eq, decide_eq_false_iff_not, Bool.not_true, Bool.not_false, Bool.not_eq_true', Bool.not_eq_false'] at hc) <;> (try (exfalso; omega)))
    | (with_reducible refine and_i ?_ ?_; (· first | omega | assumption | (refine ⟨?_, ?_⟩ <;> (first | omega | assumption | (simp only [List.length_append, List.length_map, List.length_cons, List.length_nil] <;> omega))) | (refine ⟨?_, ?_, ?_⟩ <;> (first | omega | assumption | (simp only [List.length_append, List.length_map, List.length_cons, List.length_nil] <;> omega))) | (simp only [List.length_append, List.length_map, List.length_cons, List.length_nil] <;> omega)))
    | (with_reducible refine ex_callT (h) ?_)
    | (with_reducible refine ex_seal ?_)
    | fail)
end Go.Proofs.YteohaabijmdkgaaDoor
