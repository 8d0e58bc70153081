/- PackWrites and PackReads, in K. -/
import Derived.Test.YtjgfhblciapkfaaPLaw
import Derived.Test.YtjgfhblciapkfaaPRRD
import Derived.Test.YtjgfhblciapkfaaPRead
namespace Go.Proofs.Ytjgfhblciapkfaa
set_option linter.unusedSimpArgs false
set_option linter.unusedVariables false
open Go.RowKit
def w0up : List RecordD := [⟨⟨#[112]⟩, [⟨false, [], []⟩]⟩]
theorem w0up_bytes : witnessB w0up = [2, 2, 112, 2, 0] := by
  have h1 : num 1 = [2] := by simp [num, zig, nb_small]
  simp [witnessB, several, w0up, recordB, replyB, h1, ByteArray.size]
theorem w0up_ok : OkLen w0up ∧ ∀ r ∈ w0up, OkRecord r := by
  refine ⟨by simp [OkLen, w0up], fun r hr => ?_⟩
  obtain rfl : r = ⟨⟨#[112]⟩, [⟨false, [], []⟩]⟩ := by simpa [w0up] using hr
  refine ⟨by simp [ByteArray.size], by simp [OkLen], fun x hx => ?_⟩
  obtain rfl : x = ⟨false, [], []⟩ := by simpa using hx
  exact ⟨⟨by simp [OkLen], fun m hm => by simp at hm⟩, by simp [OkLen], fun m hm => by simp at hm⟩
theorem w0up_write : AFn Try.prog 8 [.agg [recordsA w0up]] [] (.tup [.sl (([2, 2, 112, 2, 0] : List Nat).map byteN) 5 .none, .c .nilIface]) [] := by
  have h := write_k w0up w0up_ok (by rw [w0up_bytes]; simp)
  have e : writeR w0up = .tup [.sl (([2, 2, 112, 2, 0] : List Nat).map byteN) 5 .none, .c .nilIface] := by
    unfold writeR; rw [w0up_bytes]; rfl
  rwa [e] at h
theorem r0up_read : AFn Try.prog 6 [.sl (([0, 0] : List Nat).map byteN) 2 .none] [] (.tup [.agg [recordsA []], .ifc 47 (.c (.int .i64 16))]) [] := by
  have h := read_k [0, 0] (fun b hb => by simp at hb; subst hb; decide) (by simp)
  have e : readR [0, 0] = ([], 16) := by rfl
  rw [e] at h
  exact h
theorem up_text : (⟨(List.map UInt8.ofNat ([2, 2, 112, 2, 0] : List Nat)).toArray⟩ : ByteArray) = ⟨#[2, 2, 112, 2, 0]⟩ := rfl
def lv_trammel_trammellaw12_up : Nat → List Nat
  | 0 => []
  | 1 => []
  | 2 => [1, 2]
  | 3 => [1, 2, 4]
  | _ => []
set_option maxRecDepth 100000 in
set_option maxHeartbeats 8000000 in
theorem up_k : AFn Try.prog 4 [] [] (.c (.bool true)) [] := by
  refine afn_of [] Try.func4 rfl Try.ntmps4 (Nat.le_of_ble_eq_true rfl) (Nat.le_of_ble_eq_true rfl) fun w0 G0 B0 Pr hB0 => ?_
  simp only [start, argMap, List.cons_append, List.nil_append]
  have hb : toBytes [byteN 2, byteN 2, byteN 112, byteN 2, byteN 0] = [2, 2, 112, 2, 0] := rfl
  have hb2 : [byteN 2, byteN 2, byteN 112, byteN 2, byteN 0] = [byteA 2, byteA 2, byteA 112, byteA 2, byteA 0] := rfl
  repeat' (first
    | (with_reducible refine hY _ ?_; clear hY Y)
    | ((with_reducible first | refine run_n rfl (runN fun K' hK' => todo ?_) | refine hK' _ (eqTo2 fun Y hY => todo ?_) | refine run_g rfl (eqTo2 fun Y hY => todo ?_) | refine eqTo2 fun Y hY => todo ?_ | refine runN fun K' hK' => todo ?_ | refine aw_regionB tk0 lv_trammel_trammellaw12_up (eqTo2 fun Y hY => todo ?_) | refine todo ?_ | refine qretT_r ?_ | refine draw_n rfl (drawN fun K' hK' => todo ?_) | refine hK' _ _ (eqTo2 fun Y hY => todo ?_) | refine draw_g rfl (eqTo2 fun Y hY => todo ?_) | refine drawN fun K' hK' => todo ?_ | refine qretT_n ?_); (try clear hK' K'); (try dsimp only [aop]); try simp only [go_sem, ↓reduceIte, Nat.reduceEqDiff, Nat.reduceLT, Nat.reduceLeDiff, Nat.reduceAdd, Nat.reduceSub, Nat.reduceMul, Nat.reduceBEq, Nat.reduceBNe, Nat.reducePow, Int.reduceToNat, Int.reduceLE, Int.reduceLT, Int.reduceMul, Int.reduceEq, Int.reducePow, Int.reduceAdd, Int.reduceSub, Int.reduceNeg, reduceCtorEq, lv_trammel_trammellaw12_up, Try.results4, hb])
    | (with_reducible first | refine run_nil ?_ | refine guardG_n rfl ?_ | refine guardG_y ?_ | refine guardG_u ?_ | refine andD ?_ ?_ | refine then_n ?_ | refine aw_seq ?_ | refine regN fun K hK => ?_ | refine condV_t ?_ | refine condV_f ?_ | refine then_e ?_ | refine then_r ?_ | refine block_n ?_ | refine block_r ?_ | refine block_e ?_ | refine aw_block ?_ | refine aw_skip ?_ | refine aw_ret ?_ | refine aw_exit ?_ | refine aw_loop ?_ | refine aw_condc_t ?_ | refine aw_condc_f ?_ | refine draw_nil ?_ | refine regD fun K hK => ?_)
    | (with_reducible refine hK _ ?_; clear hK K)
    | (with_reducible refine hK _ _ ?_ ?_; (· kernel_rfl); clear hK K)
    | ((with_reducible first | refine gO_some ?_ ?_ | refine aw_condE ?_ ?_ | refine block_o ?_ ?_); (· decide))
    | (with_reducible refine aw_drawB tk0 lv_trammel_trammellaw12_up ?_ ?_; (· kernel_rfl))
    | ((with_reducible first | refine guardG_b (fun hc => ?_) (fun hc => ?_) | refine condV_b (fun hc => ?_) (fun hc => ?_)) <;> (try simp only [decide_eq_true_eq, decide_eq_false_iff_not, Bool.not_true, Bool.not_false, Bool.not_eq_true', Bool.not_eq_false'] at hc) <;> (try (exfalso; omega)))
    | (with_reducible refine and_i ?_ ?_; (· first | omega | assumption | (refine ⟨?_, ?_⟩ <;> (first | omega | assumption | (simp only [List.length_append, List.length_map, List.length_cons, List.length_nil] <;> omega))) | (refine ⟨?_, ?_, ?_⟩ <;> (first | omega | assumption | (simp only [List.length_append, List.length_map, List.length_cons, List.length_nil] <;> omega))) | (simp only [List.length_append, List.length_map, List.length_cons, List.length_nil] <;> omega)))
    | (with_reducible refine ex_callT (afn_args 8 w0up_write ?_) ?_; (· simp [wkD, w0up]))
    | (with_reducible refine ex_callT (afn_args 8 r0up_read ?_) ?_; (· simp [wkD, byteN]))
    | (with_reducible refine ex_okT (eql_nil) ?_)
    | (with_reducible refine ex_okT (eql_pure _) ?_)
    | (with_reducible refine ex_okT (eql_same _) ?_)
    | (with_reducible refine ex_okT (eql_code _ _) ?_)
    | (with_reducible refine ex_seal ?_)
    | fail)
theorem back_k {L : List Nat} (h : Is8 L) : L.map byteN = (L.map UInt8.ofNat).map byteA := byteN_back h
theorem writeR_e (w : List RecordD) : writeR w = if (witnessB w).length ≤ 4194304 then .tup [.sl ((witnessB w).map byteN) (witnessB w).length .none, codeA 0] else .tup [.sl [] 0 .full, codeA 2] := rfl
def lv_trammel_trammellaw12_PackWrites : Nat → List Nat
  | 0 => [0]
  | 1 => [1]
  | 2 => [1, 3]
  | 3 => [1, 3, 4]
  | 4 => [3]
  | 5 => [1, 3]
  | 6 => [1, 3, 5, 6]
  | 7 => [3, 5, 6, 7, 8]
  | _ => []
/-- What the document writes, as a text. -/
theorem rWriteR_e (w : List RecordD) : ∃ L c ow, Is8 L ∧ (ow = Own.none ∨ ow = .full) ∧ rWriteR w = .tup [.sl (L.map byteN) L.length ow, .c (.int .i64 c)] := by
  unfold rWriteR
  by_cases h : (witnessB w).length ≤ 4194304
  · rw [if_pos h]; exact ⟨_, 0, _, witness_8 w, .inl rfl, rfl⟩
  · rw [if_neg h]; exact ⟨[], 2, _, (fun b hb => by simp at hb), .inr rfl, rfl⟩
def lv_trammel_trammellaw12_PackReads : Nat → List Nat
  | 0 => [0]
  | 1 => [0]
  | 2 => [0, 3]
  | 3 => [3]
  | 4 => [0, 3]
  | 5 => [0, 3, 4, 5]
  | 6 => [3, 4, 5, 6, 7]
  | 7 => [3, 5, 6, 7, 8]
  | 8 => [3, 5, 7, 8, 10]
  | _ => []
end Go.Proofs.Ytjgfhblciapkfaa
