/- PackLong, in K. -/
import Derived.Test.YtfalmbbcdagbiaaPLawB
namespace Go.Proofs.Ytfalmbbcdagbiaa
set_option linter.unusedSimpArgs false
set_option linter.unusedVariables false
open Go.RowKit
theorem repA_one (x : AV) : ∀ n, repA [x] n = List.replicate n x
  | 0 => rfl
  | n + 1 => by rw [repA, repA_one x n]; rfl
theorem repA_zero (n : Nat) : repA [.c (.int .u8 0)] n = (List.replicate n 0).map byteN := by
  rw [repA_one, List.map_replicate]; rfl
def wLong (k : Nat) : List RecordD := [⟨toText (List.replicate k 0), []⟩]
theorem zeros_8 (k : Nat) : Is8 (List.replicate k 0) := fun b hb => by
  rw [List.mem_replicate] at hb; omega
theorem size_long (k : Nat) : (toText (List.replicate k 0)).size = k := by simp [toText, ByteArray.size]
theorem wLong_ok {k : Nat} (hk : k ≤ 5000000) : (OkLen (wLong k) ∧ ∀ r ∈ wLong k, OkRecord r) ∧ (witnessB (wLong k)).length + 20 ≤ 140737488355328 := by
  refine ⟨⟨by simp [OkLen, wLong], fun r hr => ?_⟩, ?_⟩
  · obtain rfl : r = ⟨toText (List.replicate k 0), []⟩ := by simpa [wLong] using hr
    exact ⟨by rw [size_long]; omega, by simp [OkLen], fun x hx => by simp at hx⟩
  · have : (witnessB (wLong k)).length ≤ 10 + 1 * 5000020 := several_bound (by decide) (by simp [wLong]) fun r hr => by
      obtain rfl : r = ⟨toText (List.replicate k 0), []⟩ := by simpa [wLong] using hr
      have h1 := num_len (len_64 (n := k) (by omega))
      have h2 : (several replyB []).length ≤ 10 + 0 * 0 := several_bound (by decide) (Nat.le_refl _) fun x hx => by simp at hx
      have h3 : (toText (List.replicate k 0)).data.toList.length = k := by simp [toText]
      unfold recordB
      simp only [List.length_append, List.length_map, size_long, h3]
      omega
    omega
theorem writeR_2 (w : List RecordD) : ∃ L e ow, Is8 L ∧ (ow = Own.none ∨ ow = .full) ∧ e ≤ 16 ∧ writeR w = .tup [.sl (L.map byteN) L.length ow, codeA e] ∧ rWriteR w = .tup [.sl (L.map byteN) L.length ow, .c (.int .i64 (e : Int))] := by
  rw [writeR_e]
  unfold rWriteR
  by_cases h : (witnessB w).length ≤ 4194304
  · rw [if_pos h, if_pos h]; exact ⟨_, 0, _, witness_8 w, .inl rfl, by decide, rfl, rfl⟩
  · rw [if_neg h, if_neg h]; exact ⟨[], 2, _, (fun b hb => by simp at hb), .inr rfl, by decide, rfl, rfl⟩
def lv_trammel_trammellaw12_PackLong : Nat → List Nat
  | 0 => [0]
  | 1 => [0]
  | 2 => [0, 3]
  | 3 => [3]
  | 4 => [0, 3]
  | 5 => [0, 3, 4]
  | 6 => [0, 3, 5]
  | 7 => [0, 3, 5, 6, 7]
  | 8 => [0, 3, 6, 7, 8, 9]
  | 9 => [0, 3, 6, 7, 8, 9, 11]
  | 10 => [3, 6, 7, 8, 9, 11, 13]
  | _ => []
set_option maxRecDepth 100000 in
set_option maxHeartbeats 8000000 in
theorem packLong_k (n : Int) (h64 : Is64 n) : AFn Try.prog 4 [.c (.int .i64 n)] [] (.c (.bool true)) [] := by
  obtain ⟨k, hk, hn⟩ : ∃ k : Nat, k ≤ 5000000 ∧ ((n < 0 ∧ True ∧ k = 3) ∨ (¬ n < 0 ∧ 5000000 < n ∧ k = 3) ∨ (¬ n < 0 ∧ ¬ 5000000 < n ∧ n = (k : Int))) := by
    by_cases h : n < 0
    · exact ⟨3, by decide, .inl ⟨h, trivial, rfl⟩⟩
    · by_cases h2 : 5000000 < n
      · exact ⟨3, by decide, .inr (.inl ⟨h, h2, rfl⟩)⟩
      · exact ⟨n.toNat, by omega, .inr (.inr ⟨h, h2, by omega⟩)⟩
  obtain ⟨hok, hbd⟩ := wLong_ok hk
  have h1 := write_k _ hok hbd
  have h2 := rWrite_k _ hok hbd
  obtain ⟨L, e, ow, hL8, how, he, e1, e2⟩ := writeR_2 (wLong k)
  rw [e1] at h1
  rw [e2] at h2
  have hbk := back_k hL8
  have hlen : L.length = (L.map byteN).length := by simp
  have hck := code_k e he
  have h3 := read_k (List.replicate k 0) (zeros_8 k) (by simp; omega)
  have h4 := rRead_k (List.replicate k 0) (zeros_8 k) (by simp; omega)
  have he2 : (readR (List.replicate k 0)).2 ≤ 16 := by
    unfold readR
    repeat' split
    all_goals simp
  have hck2 := code_k _ he2
  rw [List.length_replicate] at h3 h4
  have hbk0 := back_k (zeros_8 k)
  have hlen0 : k = ((List.replicate k 0).map byteN).length := by simp
  have hlr : k = (List.replicate k 0).length := by simp
  have hkb : ((k : Nat) : Int) ≤ 281474976710656 := by omega
  have hkb2 : (0 : Int) ≤ ((k : Nat) : Int) := by omega
  have hkb3 : ((k : Nat) : Int) ≤ 9223372036854775807 := by omega
  generalize readR (List.replicate k 0) = q at *
  obtain ⟨W, e'⟩ := q
  unfold readA at h3
  unfold rReadA at h4
  simp only at h3 h4 hck2
  have hn3 : ((3 : Nat) : Int) = 3 := rfl
  have hwl : recordsA (wLong k) = .sl [.c (.string (toText (List.replicate k 0))), .sl [] 0 .none] 1 .none := rfl
  rw [hwl] at h1 h2
  have htt : (⟨(List.map UInt8.ofNat (List.replicate k 0)).toArray⟩ : ByteArray) = toText (List.replicate k 0) := rfl
  generalize toText (List.replicate k 0) = T at *
  rcases how with rfl | rfl
  all_goals rcases hn with ⟨n1, n2, rfl⟩ | ⟨n1, n2, rfl⟩ | ⟨n1, n2, rfl⟩
  all_goals
    refine afn_of [] Try.func4 rfl Try.ntmps4 (Nat.le_of_ble_eq_true rfl) (Nat.le_of_ble_eq_true rfl) fun w0 G0 B0 Pr hB0 => ?_
    simp only [start, argMap, List.cons_append, List.nil_append]
    repeat' (first
      | (with_reducible refine hY _ ?_; clear hY Y)
      | ((with_reducible first | refine run_n rfl (runN fun K' hK' => todo ?_) | refine hK' _ (eqTo2 fun Y hY => todo ?_) | refine run_g rfl (eqTo2 fun Y hY => todo ?_) | refine eqTo2 fun Y hY => todo ?_ | refine runN fun K' hK' => todo ?_ | refine aw_regionB tk0 lv_trammel_trammellaw12_PackLong (eqTo2 fun Y hY => todo ?_) | refine todo ?_ | refine qretT_r ?_ | refine draw_n rfl (drawN fun K' hK' => todo ?_) | refine hK' _ _ (eqTo2 fun Y hY => todo ?_) | refine draw_g rfl (eqTo2 fun Y hY => todo ?_) | refine drawN fun K' hK' => todo ?_ | refine qretT_n ?_); (try clear hK' K'); (try dsimp only [aop]); try simp only [go_sem, ↓reduceIte, Nat.reduceEqDiff, Nat.reduceLT, Nat.reduceLeDiff, Nat.reduceAdd, Nat.reduceSub, Nat.reduceMul, Nat.reduceBEq, Nat.reduceBNe, Nat.reducePow, Int.reduceToNat, Int.reduceLE, Int.reduceLT, Int.reduceMul, Int.reduceEq, Int.reducePow, Int.reduceAdd, Int.reduceSub, Int.reduceNeg, reduceCtorEq, lv_trammel_trammellaw12_PackLong, Try.results4, n1, n2, hkb2, hkb, hkb3, repA_zero, toBytes_byteN, htt])
      | (with_reducible first | refine run_nil ?_ | refine guardG_n rfl ?_ | refine guardG_y ?_ | refine guardG_u ?_ | refine andD ?_ ?_ | refine then_n ?_ | refine aw_seq ?_ | refine regN fun K hK => ?_ | refine condV_t ?_ | refine condV_f ?_ | refine then_e ?_ | refine then_r ?_ | refine block_n ?_ | refine block_r ?_ | refine block_e ?_ | refine aw_block ?_ | refine aw_skip ?_ | refine aw_ret ?_ | refine aw_exit ?_ | refine aw_loop ?_ | refine aw_condc_t ?_ | refine aw_condc_f ?_ | refine draw_nil ?_ | refine regD fun K hK => ?_)
      | (with_reducible refine hK _ ?_; clear hK K)
      | (with_reducible refine hK _ _ ?_ ?_; (· kernel_rfl); clear hK K)
      | ((with_reducible first | refine gO_some ?_ ?_ | refine aw_condE ?_ ?_ | refine block_o ?_ ?_); (· decide))
      | (with_reducible refine aw_drawB tk0 lv_trammel_trammellaw12_PackLong ?_ ?_; (· kernel_rfl))
      | ((with_reducible first | refine guardG_b (fun hc => ?_) (fun hc => ?_) | refine condV_b (fun hc => ?_) (fun hc => ?_)) <;> (try simp only [decide_eq_true_eq, decide_eq_false_iff_not, Bool.not_true, Bool.not_false, Bool.not_eq_true', Bool.not_eq_false'] at hc) <;> (try (exfalso; omega)))
      | (with_reducible refine and_i ?_ ?_; (· first | omega | assumption | (refine ⟨?_, ?_⟩ <;> (first | omega | assumption | (simp only [List.length_append, List.length_map, List.length_cons, List.length_nil] <;> omega))) | (refine ⟨?_, ?_, ?_⟩ <;> (first | omega | assumption | (simp only [List.length_append, List.length_map, List.length_cons, List.length_nil] <;> omega))) | (simp only [List.length_append, List.length_map, List.length_cons, List.length_nil] <;> omega)))
      | (with_reducible refine ex_callT (up_k) ?_)
      | (with_reducible refine ex_callT (afn_args 8 h1 ?_) ?_; (· simp [wkD]))
      | (with_reducible refine ex_callT (afn_args 8 h2 ?_) ?_; (· simp [wkD]))
      | (with_reducible refine ex_callT (afn_args 8 h3 ?_) ?_; (· simp [wkD, byteN]))
      | (with_reducible refine ex_callT (afn_args 8 h4 ?_) ?_; (· simp [wkD, byteN]))
      | (with_reducible refine ex_callT (hck) ?_)
      | (with_reducible refine ex_callT (hck2) ?_)
      | (with_reducible refine ex_okT (eql_pure _) ?_)
      | (with_reducible refine ex_okT (eql_same _) ?_)
      | fail)
end Go.Proofs.Ytfalmbbcdagbiaa
