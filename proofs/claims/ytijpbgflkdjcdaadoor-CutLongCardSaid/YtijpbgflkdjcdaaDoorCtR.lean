/- CutLong in K: as many premises, steps, parts as may be; more. -/
import Derived.Test.YtijpbgflkdjcdaaDoorCtQ
namespace Go.Proofs.YtijpbgflkdjcdaaDoor
set_option linter.unusedSimpArgs false
set_option linter.unusedVariables false
open Go.RowKit
abbrev ln0 : Ln := ⟨0, []⟩
abbrev st1 : Stp := ⟨[], 1⟩
theorem repA_map (f : AV → AV) (z : List AV) : ∀ n, (repA z n).map f = repA (z.map f) n
  | 0 => rfl
  | n + 1 => by rw [repA, List.map_append, repA_map f z n]; rfl
theorem repA_fm {α : Type} (f : α → List AV) (x : α) : ∀ n, (List.replicate n x).flatMap f = repA (f x) n
  | 0 => rfl
  | n + 1 => by rw [List.replicate_succ, List.flatMap_cons, repA_fm f x n]; rfl
theorem repA_snoc (z : List AV) : ∀ n, repA z (n + 1) = repA z n ++ z
  | 0 => by simp [repA]
  | n + 1 => by
    have h := repA_snoc z n
    calc repA z (n + 1 + 1) = z ++ repA z (n + 1) := rfl
      _ = z ++ (repA z n ++ z) := by rw [h]
      _ = repA z (n + 1) ++ z := by rw [← List.append_assoc]; rfl
theorem repA_len (z : List AV) : ∀ n, (repA z n).length = n * z.length
  | 0 => by simp [repA]
  | n + 1 => by rw [repA, List.length_append, repA_len z n, Nat.succ_mul]; omega
theorem repA_cm (m : Tm) (n : Nat) : repA [inA m.1, inA m.2] n = cellsM (List.replicate n m) := by rw [cellsM_fm, repA_fm]
theorem varsT_nil : varsT [] = [] := by
  unfold varsT srtI
  rw [show keysT [] = [] from rfl, List.mergeSort_nil]
theorem div_0 : dividedN 0 [] 1 = (0, ln0) := by
  unfold dividedN
  rw [varsT_nil]
  exact rfl
theorem step_1 (ls : List Ln) : stepN ls st1 = (0, ln0) := by
  unfold stepN
  rw [if_neg (by simp)]
  show (if (0 : Nat) = 0 then dividedN 0 [] 1 else _) = _
  rw [if_pos rfl, div_0]
theorem steps_1 : ∀ (n i : Nat) (ls : List Ln), stepsN (List.replicate n st1) i ls = (0, -1, ls ++ List.replicate n ln0)
  | 0, i, ls => by simp [stepsN]
  | n + 1, i, ls => by
    rw [List.replicate_succ, stepsN_0 (step_1 ls), steps_1 n, List.append_assoc]; rfl
theorem parts_1 : ∀ n : Nat, partsN [ln0] (List.replicate n (0, 1)) 0 [] = (0, 0, [])
  | 0 => rfl
  | n + 1 => by
    rw [List.replicate_succ, partsN, if_neg (by decide), if_neg (by decide)]
    exact parts_1 n
theorem step_2 (n : Nat) (h : n ≤ 64) : stepN [ln0] ⟨List.replicate n (0, 1), 1⟩ = (0, ln0) := by
  unfold stepN
  rw [if_neg (by simp; omega)]
  simp only [parts_1, if_pos]
  exact div_0
theorem step_3 (n : Nat) (h : 64 < n) : stepN [ln0] ⟨List.replicate n (0, 1), 1⟩ = (2, ln0) := by
  unfold stepN
  rw [if_pos (by simp; omega)]
theorem lines_0 (n : Nat) (h : n ≤ 4096) : linesN (List.replicate n ln0) [] = (0, -1, List.replicate n ln0) := by
  unfold linesN
  rw [if_neg (by simp; omega), firstBad_all (fun l hl => by rw [List.mem_replicate] at hl; rw [hl.2]; rfl)]
  rfl
theorem lines_0b (n : Nat) (h : 4096 < n) : linesN (List.replicate n ln0) [] = (2, -1, []) := by
  unfold linesN
  rw [if_pos (.inl (by simp; omega))]
theorem lines_1 (n : Nat) (h : n ≤ 4096) : linesN [] (List.replicate n st1) = (0, -1, List.replicate n ln0) := by
  unfold linesN
  rw [if_neg (by simp; omega)]
  show stepsN _ 0 [] = _
  rw [steps_1]; rfl
theorem lines_1b (n : Nat) (h : 4096 < n) : linesN [] (List.replicate n st1) = (2, -1, []) := by
  unfold linesN
  rw [if_pos (.inr (by simp; omega))]
theorem lines_2 (n : Nat) (h : n ≤ 64) : linesN [ln0] [⟨List.replicate n (0, 1), 1⟩] = (0, -1, [ln0, ln0]) := by
  unfold linesN
  rw [if_neg (by simp)]
  show stepsN _ 0 [ln0] = _
  rw [stepsN_0 (step_2 n h)]; rfl
theorem lines_2b (n : Nat) (h : 64 < n) : linesN [ln0] [⟨List.replicate n (0, 1), 1⟩] = (2, 0, []) := by
  unfold linesN
  rw [if_neg (by simp)]
  show stepsN _ 0 [ln0] = _
  rw [stepsN_n (step_3 n h) (by decide)]; rfl
/-! ### The three calls, as they are made. -/
theorem call_0 (k : Nat) (hk : k ≤ 5000) : AFn Tryd.prog 8 [.sl (repA [inA 0, .sl [] 0 .full] k) k .full, .sl [] 0 .full] [] (linesR (linesN (List.replicate k ln0) [])) [] := by
  refine afn_args 8 (lines_k (List.replicate k ln0) [] ⟨by unfold Lg; simp; omega, fun l hl => by rw [List.mem_replicate] at hl; rw [hl.2]; simp⟩ ⟨by unfold Lg; simp, fun s hs => absurd hs List.not_mem_nil⟩) ?_
  show [AV.sl ((repA [inA 0, .sl [] 0 .full] k).map (wkD 7)) k .none, .sl [] 0 .none] = [.sl ((List.replicate k ln0).flatMap lnA) (List.replicate k ln0).length .none, .sl [] 0 .none]
  rw [repA_map, repA_fm, List.length_replicate]; rfl
theorem call_1 (k : Nat) (hk : k ≤ 5000) : AFn Tryd.prog 8 [.sl [] 0 .full, .sl (repA [.sl [] 0 .full, inA 1] k) k .none] [] (linesR (linesN [] (List.replicate k st1))) [] := by
  refine afn_args 8 (lines_k [] (List.replicate k st1) ⟨by unfold Lg; simp, fun s hs => absurd hs List.not_mem_nil⟩ ⟨by unfold Lg; simp; omega, fun l hl => by rw [List.mem_replicate] at hl; rw [hl.2]; unfold Lg; simp⟩) ?_
  show [.sl [] 0 .none, AV.sl ((repA [.sl [] 0 .full, inA 1] k).map (wkD 7)) k .none] = [.sl [] 0 .none, .sl ((List.replicate k st1).flatMap stpA) (List.replicate k st1).length .none]
  rw [repA_map, repA_fm, List.length_replicate]; rfl
theorem call_2 (k : Nat) (hk : k ≤ 5000) : AFn Tryd.prog 8 [.sl [inA 0, .sl [] 0 .full] 1 .full, .sl [.sl (repA [inA 0, inA 1] k) k .none, inA 1] 1 .full] [] (linesR (linesN [ln0] [⟨List.replicate k (0, 1), 1⟩])) [] := by
  refine afn_args 8 (lines_k [ln0] [⟨List.replicate k (0, 1), 1⟩] ⟨by unfold Lg; simp, fun l hl => by simp at hl; subst hl; simp⟩ ⟨by unfold Lg; simp, fun l hl => by simp at hl; subst hl; unfold Lg; simp; omega⟩) ?_
  show [AV.sl [inA 0, .sl [] 0 .none] 1 .none, .sl [.sl ((repA [inA 0, inA 1] k).map (wkD 6)) k .none, inA 1] 1 .none] = [.sl [inA 0, .sl [] 0 .none] 1 .none, .sl [.sl (cellsM (List.replicate k (0, 1))) (List.replicate k ((0 : Int), (1 : Int))).length .none, inA 1] 1 .none]
  rw [repA_map, ← repA_cm (0, 1) k, List.length_replicate]; rfl
theorem pure_M : ∀ M : List Tm, (cellsM M).mapM (pureA 4) = some (cellsM M)
  | [] => rfl
  | m :: r => by rw [cellsM, List.mapM_cons, List.mapM_cons, pure_M r]; rfl
theorem pure_rep (k : Nat) : (repA [inA 0, inA 1] k).mapM (pureA 4) = some (repA [inA 0, inA 1] k) := by
  rw [repA_cm (0, 1) k]; exact pure_M _
theorem put_rep (j m : Nat) (h : 0 < m) : putAt (repA [inA 0, inA 1] j ++ repA [inA 0, inA 0] m) (j * 2 + 1) [inA 1] = repA [inA 0, inA 1] (j + 1) ++ repA [inA 0, inA 0] (m - 1) := by
  obtain ⟨q, rfl⟩ : ∃ q, m = q + 1 := ⟨m - 1, by omega⟩
  have hl : (repA [inA 0, inA 1] j).length = j * 2 := by rw [repA_len]; rfl
  unfold putAt
  rw [repA_snoc [inA 0, inA 1] j, show q + 1 - 1 = q from rfl]
  generalize repA [inA 0, inA 1] j = A at *
  show (A ++ (inA 0 :: inA 0 :: repA [inA 0, inA 0] q)).take (j * 2 + 1) ++ [inA 1] ++ (A ++ (inA 0 :: inA 0 :: repA [inA 0, inA 0] q)).drop (j * 2 + 1 + 1) = _
  rw [← hl, List.take_length_add_append, Nat.add_assoc, List.drop_length_add_append]
  simp
def lv_trammel_trammellaw04_CutLong : Nat → List Nat
  | 0 => [0, 1]
  | 1 => [0, 1]
  | 2 => [0, 1, 5]
  | 3 => [1, 5]
  | 4 => [0, 1, 5]
  | 5 => [0, 1, 5, 6]
  | 6 => [0, 1, 5, 6, 7]
  | 7 => [0, 5, 6, 7, 8]
  | 8 => [0, 5, 6, 7, 8]
  | 9 => [0, 5, 6, 7, 8]
  | 10 => [0, 5, 8]
  | 11 => [0, 5, 8, 10]
  | 12 => [0, 5, 8, 10, 11]
  | 13 => [0, 5, 8, 10, 11]
  | 14 => [0, 5, 8, 10, 11]
  | 15 => [0, 5, 8, 10]
  | 16 => [0, 5, 7, 8]
  | 17 => [0, 5, 6, 7, 8, 27]
  | 18 => [0, 5, 7, 8]
  | 19 => [0, 5, 6, 7, 8, 27]
  | 20 => [0, 5, 6, 7, 8]
  | 21 => [0, 5, 6, 7, 8, 9]
  | 22 => [0, 5, 6, 7, 8, 9]
  | 23 => [0, 5, 6, 7, 8, 9]
  | 24 => [0, 5, 6, 7, 8]
  | 25 => [0, 5, 6, 7, 8, 12, 13]
  | 26 => [5, 12, 13]
  | 27 => [0, 5, 6, 7, 8, 12, 13]
  | 28 => [5, 13]
  | 29 => [5, 6, 7, 12, 13]
  | _ => []
set_option maxRecDepth 100000 in
set_option maxHeartbeats 16000000 in
theorem cutLong_k (n which : Int) (h1 : -9223372036854775808 ≤ n ∧ n ≤ 9223372036854775807) (h2 : -9223372036854775808 ≤ which ∧ which ≤ 9223372036854775807) : AFn Tryd.prog 5 [inA n, inA which] [] (.c (.bool true)) [] := by
  obtain ⟨k, hk, hn⟩ : ∃ k : Nat, k ≤ 5000 ∧ ((n < 0 ∧ True ∧ k = 3) ∨ (¬ n < 0 ∧ 5000 < n ∧ k = 3) ∨ (¬ n < 0 ∧ ¬ 5000 < n ∧ n = (k : Int))) := by
    by_cases h : n < 0
    · exact ⟨3, by decide, .inl ⟨h, trivial, rfl⟩⟩
    · by_cases h2 : 5000 < n
      · exact ⟨3, by decide, .inr (.inl ⟨h, h2, rfl⟩)⟩
      · exact ⟨n.toNat, by omega, .inr (.inr ⟨h, h2, by omega⟩)⟩
  obtain ⟨_, t1, t2⟩ := tdm which 3 (by decide)
  generalize hr : which.tmod 3 = r at *
  obtain ⟨kd, hkd, hrk⟩ : ∃ kd : Nat, kd ≤ 2 ∧ ((r < 0 ∧ -r = (kd : Int)) ∨ (¬ r < 0 ∧ r = (kd : Int))) := by
    by_cases h : r < 0
    · exact ⟨r.natAbs, by omega, .inl ⟨h, by omega⟩⟩
    · exact ⟨r.natAbs, by omega, .inr ⟨h, by omega⟩⟩
  have hng : IntKind.i64.wrap (0 - r) = -r := by rw [Int.zero_sub]; exact wrap_i64 (by omega) (by omega)
  refine afn_of [] Tryd.func5 rfl Tryd.ntmps5 (Nat.le_of_ble_eq_true rfl) (Nat.le_of_ble_eq_true rfl) fun w0 G0 B0 Pr hB0 => ?_
  simp only [start, argMap, List.cons_append, List.nil_append]
  apply aw_hub (α := Unit) (fun _ => [(0, inA (k : Int)), (5, .c (.bool true)), (6, .sl [] 0 .full), (7, .sl [] 0 .full), (8, inA (kd : Int)), (27, inA (kd : Int))]) (fun _ => True)
  case use =>
    intro key
    rcases hn with ⟨n1, n2, rfl⟩ | ⟨n1, n2, rfl⟩ | ⟨n1, n2, rfl⟩ <;> rcases hrk with ⟨r1, r2⟩ | ⟨r1, r2⟩
    all_goals
      repeat' (first
        | (with_reducible refine hY _ ?_; clear hY Y)
        | ((with_reducible first | refine run_n rfl (runN fun K' hK' => todo ?_) | refine hK' _ (eqTo2 fun Y hY => todo ?_) | refine run_g rfl (eqTo2 fun Y hY => todo ?_) | refine eqTo2 fun Y hY => todo ?_ | refine runN fun K' hK' => todo ?_ | refine todo ?_ | refine qretT_r ?_ | refine draw_n rfl (drawN fun K' hK' => todo ?_) | refine hK' _ _ (eqTo2 fun Y hY => todo ?_) | refine draw_g rfl (eqTo2 fun Y hY => todo ?_) | refine drawN fun K' hK' => todo ?_ | refine qretT_n ?_); (try clear hK' K'); (try dsimp only [aop]); try simp only [go_sem, ↓reduceIte, Nat.reduceEqDiff, Nat.reduceLT, Nat.reduceLeDiff, Nat.reduceAdd, Nat.reduceSub, Nat.reduceMul, Nat.reduceBEq, Nat.reduceBNe, Nat.reducePow, Int.reduceToNat, Int.reduceLE, Int.reduceLT, Int.reduceMul, Int.reduceEq, Int.reducePow, Int.reduceAdd, Int.reduceSub, Int.reduceNeg, reduceCtorEq, lv_trammel_trammellaw04_CutLong, Tryd.results5, n1, n2, hr, r1, hng, r2])
        | (with_reducible first | refine run_nil ?_ | refine guardG_n rfl ?_ | refine guardG_y ?_ | refine guardG_u ?_ | refine andD ?_ ?_ | refine then_n ?_ | refine regN fun K hK => ?_ | refine condV_t ?_ | refine condV_f ?_ | refine then_e ?_ | refine then_r ?_ | refine block_n ?_ | refine block_r ?_ | refine block_e ?_ | refine aw_block ?_ | refine aw_skip ?_ | refine aw_ret ?_ | refine aw_exit ?_ | refine aw_loop ?_ | refine aw_condc_t ?_ | refine aw_condc_f ?_ | refine draw_nil ?_ | refine regD fun K hK => ?_)
        | ((with_reducible refine aw_seqS 17 ?_ ?_); (· rfl))
        | ((with_reducible refine aw_regionBS 17 tk0 lv_trammel_trammellaw04_CutLong ?_ (eqTo2 fun Y hY => todo ?_)); (· rfl); (try dsimp only [aop]); try simp only [go_sem, ↓reduceIte, Nat.reduceEqDiff, Nat.reduceLT, Nat.reduceLeDiff, Nat.reduceAdd, Nat.reduceSub, Nat.reduceMul, Nat.reduceBEq, Nat.reduceBNe, Nat.reducePow, Int.reduceToNat, Int.reduceLE, Int.reduceLT, Int.reduceMul, Int.reduceEq, Int.reducePow, Int.reduceAdd, Int.reduceSub, Int.reduceNeg, reduceCtorEq, lv_trammel_trammellaw04_CutLong, Tryd.results5, n1, n2, hr, r1, hng, r2])
        | (with_reducible refine hK _ ?_; clear hK K)
        | (with_reducible refine hK _ _ ?_ ?_; (· kernel_rfl); clear hK K)
        | ((with_reducible first | refine gO_some ?_ ?_ | refine aw_condE ?_ ?_ | refine block_o ?_ ?_); (· decide))
        | ((with_reducible refine aw_drawBS 17 tk0 lv_trammel_trammellaw04_CutLong ?_ ?_ ?_); (· rfl); (· kernel_rfl))
        | ((with_reducible first | refine guardG_b (fun hc => ?_) (fun hc => ?_) | refine condV_b (fun hc => ?_) (fun hc => ?_)) <;> (try simp only [decide_eq_true_eq, decide_eq_false_iff_not, Bool.not_true, Bool.not_false, Bool.not_eq_true', Bool.not_eq_false'] at hc) <;> (try (exfalso; omega)))
        | (with_reducible refine and_i ?_ ?_; (· first | omega | assumption | (refine ⟨?_, ?_⟩ <;> (first | omega | assumption | (simp only [List.length_append, List.length_map, List.length_cons, List.length_nil] <;> omega))) | (refine ⟨?_, ?_, ?_⟩ <;> (first | omega | assumption | (simp only [List.length_append, List.length_map, List.length_cons, List.length_nil] <;> omega))) | (simp only [List.length_append, List.length_map, List.length_cons, List.length_nil] <;> omega)))
        | (with_reducible refine ex_callT (upCut_k) ?_)
        | (with_reducible refine ex_seal ?_)
        | fail)
    all_goals exact aw_cleanH (L := [0, 5, 6, 7, 8, 27]) (by simp only [go_sem, ↓reduceIte, Nat.reduceEqDiff, Nat.reduceLT, Nat.reduceLeDiff, Nat.reduceAdd, Nat.reduceSub, Nat.reduceMul, Nat.reduceBEq, Nat.reduceBNe, Nat.reducePow, Int.reduceToNat, Int.reduceLE, Int.reduceLT, Int.reduceMul, Int.reduceEq, Int.reducePow, Int.reduceAdd, Int.reduceSub, Int.reduceNeg, reduceCtorEq]; try exact rfl) (key () trivial)
  case key =>
  rintro _ _
  clear hn hrk hng hr t1 t2 h1 h2
  have hlen : (List.replicate k ln0).length = k := List.length_replicate ..
  have hw0 : IntKind.i64.wrap ((k : Int) + 0) = (k : Int) := by rw [Int.add_zero]; exact wrap_i64 (by omega) (by omega)
  have hwk : IntKind.i64.wrap (k : Int) = (k : Int) := wrap_i64 (by omega) (by omega)
  have hkb2 : (0 : Int) ≤ ((k : Nat) : Int) := by omega
  have hkb3 : ((k : Nat) : Int) ≤ 9223372036854775807 := by omega
  have hd : kd = 0 ∨ kd = 1 ∨ kd = 2 := by omega
  rcases hd with rfl | rfl | rfl
  · have hA := call_0 k hk
    by_cases hl : k ≤ 4096
    · have hl' : ((4096 : Int) < (k : Int)) = False := eq_false (by omega)
      rw [lines_0 k hl] at hA
      unfold linesR at hA
      simp only [err_0, hlen] at hA
      repeat' (first
        | (with_reducible refine hY _ ?_; clear hY Y)
        | ((with_reducible first | refine run_n rfl (runN fun K' hK' => todo ?_) | refine hK' _ (eqTo2 fun Y hY => todo ?_) | refine run_g rfl (eqTo2 fun Y hY => todo ?_) | refine eqTo2 fun Y hY => todo ?_ | refine runN fun K' hK' => todo ?_ | refine aw_regionB tk0 lv_trammel_trammellaw04_CutLong (eqTo2 fun Y hY => todo ?_) | refine todo ?_ | refine qretT_r ?_ | refine draw_n rfl (drawN fun K' hK' => todo ?_) | refine hK' _ _ (eqTo2 fun Y hY => todo ?_) | refine draw_g rfl (eqTo2 fun Y hY => todo ?_) | refine drawN fun K' hK' => todo ?_ | refine qretT_n ?_); (try clear hK' K'); (try dsimp only [aop]); try simp only [go_sem, ↓reduceIte, Nat.reduceEqDiff, Nat.reduceLT, Nat.reduceLeDiff, Nat.reduceAdd, Nat.reduceSub, Nat.reduceMul, Nat.reduceBEq, Nat.reduceBNe, Nat.reducePow, Int.reduceToNat, Int.reduceLE, Int.reduceLT, Int.reduceMul, Int.reduceEq, Int.reducePow, Int.reduceAdd, Int.reduceSub, Int.reduceNeg, reduceCtorEq, lv_trammel_trammellaw04_CutLong, Tryd.results5, hl', hw0, hkb2, hkb3])
        | (with_reducible first | refine run_nil ?_ | refine guardG_n rfl ?_ | refine guardG_y ?_ | refine guardG_u ?_ | refine andD ?_ ?_ | refine then_n ?_ | refine aw_seq ?_ | refine regN fun K hK => ?_ | refine condV_t ?_ | refine condV_f ?_ | refine then_e ?_ | refine then_r ?_ | refine block_n ?_ | refine block_r ?_ | refine block_e ?_ | refine aw_block ?_ | refine aw_skip ?_ | refine aw_ret ?_ | refine aw_exit ?_ | refine aw_loop ?_ | refine aw_condc_t ?_ | refine aw_condc_f ?_ | refine draw_nil ?_ | refine regD fun K hK => ?_)
        | (with_reducible refine hK _ ?_; clear hK K)
        | (with_reducible refine hK _ _ ?_ ?_; (· kernel_rfl); clear hK K)
        | ((with_reducible first | refine gO_some ?_ ?_ | refine aw_condE ?_ ?_ | refine block_o ?_ ?_); (· decide))
        | (with_reducible refine aw_drawB tk0 lv_trammel_trammellaw04_CutLong ?_ ?_; (· kernel_rfl))
        | ((with_reducible first | refine guardG_b (fun hc => ?_) (fun hc => ?_) | refine condV_b (fun hc => ?_) (fun hc => ?_)) <;> (try simp only [decide_eq_true_eq, decide_eq_false_iff_not, Bool.not_true, Bool.not_false, Bool.not_eq_true', Bool.not_eq_false'] at hc) <;> (try (exfalso; omega)))
        | (with_reducible refine and_i ?_ ?_; (· first | omega | assumption | (refine ⟨?_, ?_⟩ <;> (first | omega | assumption | (simp only [List.length_append, List.length_map, List.length_cons, List.length_nil] <;> omega))) | (refine ⟨?_, ?_, ?_⟩ <;> (first | omega | assumption | (simp only [List.length_append, List.length_map, List.length_cons, List.length_nil] <;> omega))) | (simp only [List.length_append, List.length_map, List.length_cons, List.length_nil] <;> omega)))
        | (with_reducible refine ex_callT (hA) ?_)
        | (with_reducible refine ex_okT (eql_nil) ?_)
        | (with_reducible refine ex_okT (eql_code _ _) ?_)
        | (with_reducible refine ex_seal ?_)
        | fail)
      all_goals simp [hwk]
    · have hl' : ((4096 : Int) < (k : Int)) = True := eq_true (by omega)
      rw [lines_0b k (by omega)] at hA
      unfold linesR at hA
      rw [show errA (2, (-1 : Int), ([] : List Ln)).1 (2, (-1 : Int), ([] : List Ln)).2.1 = codeA 2 from rfl, code_2] at hA
      repeat' (first
        | (with_reducible refine hY _ ?_; clear hY Y)
        | ((with_reducible first | refine run_n rfl (runN fun K' hK' => todo ?_) | refine hK' _ (eqTo2 fun Y hY => todo ?_) | refine run_g rfl (eqTo2 fun Y hY => todo ?_) | refine eqTo2 fun Y hY => todo ?_ | refine runN fun K' hK' => todo ?_ | refine aw_regionB tk0 lv_trammel_trammellaw04_CutLong (eqTo2 fun Y hY => todo ?_) | refine todo ?_ | refine qretT_r ?_ | refine draw_n rfl (drawN fun K' hK' => todo ?_) | refine hK' _ _ (eqTo2 fun Y hY => todo ?_) | refine draw_g rfl (eqTo2 fun Y hY => todo ?_) | refine drawN fun K' hK' => todo ?_ | refine qretT_n ?_); (try clear hK' K'); (try dsimp only [aop]); try simp only [go_sem, ↓reduceIte, Nat.reduceEqDiff, Nat.reduceLT, Nat.reduceLeDiff, Nat.reduceAdd, Nat.reduceSub, Nat.reduceMul, Nat.reduceBEq, Nat.reduceBNe, Nat.reducePow, Int.reduceToNat, Int.reduceLE, Int.reduceLT, Int.reduceMul, Int.reduceEq, Int.reducePow, Int.reduceAdd, Int.reduceSub, Int.reduceNeg, reduceCtorEq, lv_trammel_trammellaw04_CutLong, Tryd.results5, hl', hw0, hkb2, hkb3])
        | (with_reducible first | refine run_nil ?_ | refine guardG_n rfl ?_ | refine guardG_y ?_ | refine guardG_u ?_ | refine andD ?_ ?_ | refine then_n ?_ | refine aw_seq ?_ | refine regN fun K hK => ?_ | refine condV_t ?_ | refine condV_f ?_ | refine then_e ?_ | refine then_r ?_ | refine block_n ?_ | refine block_r ?_ | refine block_e ?_ | refine aw_block ?_ | refine aw_skip ?_ | refine aw_ret ?_ | refine aw_exit ?_ | refine aw_loop ?_ | refine aw_condc_t ?_ | refine aw_condc_f ?_ | refine draw_nil ?_ | refine regD fun K hK => ?_)
        | (with_reducible refine hK _ ?_; clear hK K)
        | (with_reducible refine hK _ _ ?_ ?_; (· kernel_rfl); clear hK K)
        | ((with_reducible first | refine gO_some ?_ ?_ | refine aw_condE ?_ ?_ | refine block_o ?_ ?_); (· decide))
        | (with_reducible refine aw_drawB tk0 lv_trammel_trammellaw04_CutLong ?_ ?_; (· kernel_rfl))
        | ((with_reducible first | refine guardG_b (fun hc => ?_) (fun hc => ?_) | refine condV_b (fun hc => ?_) (fun hc => ?_)) <;> (try simp only [decide_eq_true_eq, decide_eq_false_iff_not, Bool.not_true, Bool.not_false, Bool.not_eq_true', Bool.not_eq_false'] at hc) <;> (try (exfalso; omega)))
        | (with_reducible refine and_i ?_ ?_; (· first | omega | assumption | (refine ⟨?_, ?_⟩ <;> (first | omega | assumption | (simp only [List.length_append, List.length_map, List.length_cons, List.length_nil] <;> omega))) | (refine ⟨?_, ?_, ?_⟩ <;> (first | omega | assumption | (simp only [List.length_append, List.length_map, List.length_cons, List.length_nil] <;> omega))) | (simp only [List.length_append, List.length_map, List.length_cons, List.length_nil] <;> omega)))
        | (with_reducible refine ex_callT (hA) ?_)
        | (with_reducible refine ex_okT (eql_nil) ?_)
        | (with_reducible refine ex_okT (eql_code _ _) ?_)
        | (with_reducible refine ex_seal ?_)
        | fail)
      all_goals simp [hwk]
  · have hB := call_1 k hk
    repeat' (first
      | (with_reducible refine hY _ ?_; clear hY Y)
      | ((with_reducible first | refine run_n rfl (runN fun K' hK' => todo ?_) | refine hK' _ (eqTo2 fun Y hY => todo ?_) | refine run_g rfl (eqTo2 fun Y hY => todo ?_) | refine eqTo2 fun Y hY => todo ?_ | refine runN fun K' hK' => todo ?_ | refine aw_regionB tk0 lv_trammel_trammellaw04_CutLong (eqTo2 fun Y hY => todo ?_) | refine todo ?_ | refine qretT_r ?_ | refine draw_n rfl (drawN fun K' hK' => todo ?_) | refine hK' _ _ (eqTo2 fun Y hY => todo ?_) | refine draw_g rfl (eqTo2 fun Y hY => todo ?_) | refine drawN fun K' hK' => todo ?_ | refine qretT_n ?_); (try clear hK' K'); (try dsimp only [aop]); try simp only [go_sem, ↓reduceIte, Nat.reduceEqDiff, Nat.reduceLT, Nat.reduceLeDiff, Nat.reduceAdd, Nat.reduceSub, Nat.reduceMul, Nat.reduceBEq, Nat.reduceBNe, Nat.reducePow, Int.reduceToNat, Int.reduceLE, Int.reduceLT, Int.reduceMul, Int.reduceEq, Int.reducePow, Int.reduceAdd, Int.reduceSub, Int.reduceNeg, reduceCtorEq, lv_trammel_trammellaw04_CutLong, Tryd.results5])
      | (with_reducible first | refine run_nil ?_ | refine guardG_n rfl ?_ | refine guardG_y ?_ | refine guardG_u ?_ | refine andD ?_ ?_ | refine then_n ?_ | refine aw_seq ?_ | refine regN fun K hK => ?_ | refine condV_t ?_ | refine condV_f ?_ | refine then_e ?_ | refine then_r ?_ | refine block_n ?_ | refine block_r ?_ | refine block_e ?_ | refine aw_block ?_ | refine aw_skip ?_ | refine aw_ret ?_ | refine aw_exit ?_ | refine aw_loop ?_ | refine aw_condc_t ?_ | refine aw_condc_f ?_ | refine draw_nil ?_ | refine regD fun K hK => ?_)
      | (with_reducible refine hK _ ?_; clear hK K)
      | (with_reducible refine hK _ _ ?_ ?_; (· kernel_rfl); clear hK K)
      | ((with_reducible first | refine gO_some ?_ ?_ | refine aw_condE ?_ ?_ | refine block_o ?_ ?_); (· decide))
      | (with_reducible refine aw_drawB tk0 lv_trammel_trammellaw04_CutLong ?_ ?_; (· kernel_rfl))
      | ((with_reducible first | refine guardG_b (fun hc => ?_) (fun hc => ?_) | refine condV_b (fun hc => ?_) (fun hc => ?_)) <;> (try simp only [decide_eq_true_eq, decide_eq_false_iff_not, Bool.not_true, Bool.not_false, Bool.not_eq_true', Bool.not_eq_false'] at hc) <;> (try (exfalso; omega)))
      | (with_reducible refine and_i ?_ ?_; (· first | omega | assumption | (refine ⟨?_, ?_⟩ <;> (first | omega | assumption | (simp only [List.length_append, List.length_map, List.length_cons, List.length_nil] <;> omega))) | (refine ⟨?_, ?_, ?_⟩ <;> (first | omega | assumption | (simp only [List.length_append, List.length_map, List.length_cons, List.length_nil] <;> omega))) | (simp only [List.length_append, List.length_map, List.length_cons, List.length_nil] <;> omega)))
      | (with_reducible refine ex_seal ?_)
      | fail)
    refine awl_le (ale_tok (b := 10057) (t := 7) 39 (by decide) (by decide) rfl rfl) ?_
    refine awl_ind (α := Nat) (fun j => [(0, inA (k : Int)), (5, .c (.bool true)), (6, .sl [] 0 .full), (7, .sl (repA [.sl [] 0 .full, inA 1] j) j (.tok 10057)), (8, inA 1), (9, inA (j : Int)), (10057, .bt j 39)])
      (fun j => j ≤ k) (fun j => k - j) 0 [0, 5, 6, 7, 8, 9] ?_ (Nat.zero_le _) ?_
    · simp only [go_sem, ↓reduceIte, Nat.reduceEqDiff, Nat.reduceLT, Nat.reduceLeDiff, Nat.reduceAdd, Nat.reduceSub, Nat.reduceMul, Nat.reduceBEq, Nat.reduceBNe, Nat.reducePow, Int.reduceToNat, Int.reduceLE, Int.reduceLT, Int.reduceMul, Int.reduceEq, Int.reducePow, Int.reduceAdd, Int.reduceSub, Int.reduceNeg, reduceCtorEq, repA] <;> rfl
    intro j hj ih
    by_cases hjk : j < k
    · have hjk' : ((j : Int) < (k : Int)) = True := eq_true (by omega)
      have hjw := wrap_1 (n := j) (by omega)
      have hcl : (repA [.sl [] 0 .full, inA 1] j).length = j * 2 := by rw [repA_len]; rfl
      have ih' := ih (j + 1) (by omega) (by omega)
      rw [repA_snoc] at ih'
      clear ih hB
      generalize repA [.sl [] 0 .full, inA 1] j = RJ at *
      repeat' (first
        | (with_reducible refine hY _ ?_; clear hY Y)
        | ((with_reducible first | refine run_n rfl (runN fun K' hK' => todo ?_) | refine hK' _ (eqTo2 fun Y hY => todo ?_) | refine run_g rfl (eqTo2 fun Y hY => todo ?_) | refine eqTo2 fun Y hY => todo ?_ | refine runN fun K' hK' => todo ?_ | refine aw_regionB tk0 lv_trammel_trammellaw04_CutLong (eqTo2 fun Y hY => todo ?_) | refine todo ?_ | refine qretT_r ?_ | refine draw_n rfl (drawN fun K' hK' => todo ?_) | refine hK' _ _ (eqTo2 fun Y hY => todo ?_) | refine draw_g rfl (eqTo2 fun Y hY => todo ?_) | refine drawN fun K' hK' => todo ?_ | refine qretT_n ?_); (try clear hK' K'); (try dsimp only [aop]); try simp only [go_sem, ↓reduceIte, Nat.reduceEqDiff, Nat.reduceLT, Nat.reduceLeDiff, Nat.reduceAdd, Nat.reduceSub, Nat.reduceMul, Nat.reduceBEq, Nat.reduceBNe, Nat.reducePow, Int.reduceToNat, Int.reduceLE, Int.reduceLT, Int.reduceMul, Int.reduceEq, Int.reducePow, Int.reduceAdd, Int.reduceSub, Int.reduceNeg, reduceCtorEq, lv_trammel_trammellaw04_CutLong, Tryd.results5, hjk', hjw, hcl])
        | (with_reducible first | refine run_nil ?_ | refine guardG_n rfl ?_ | refine guardG_y ?_ | refine guardG_u ?_ | refine andD ?_ ?_ | refine then_n ?_ | refine aw_seq ?_ | refine regN fun K hK => ?_ | refine condV_t ?_ | refine condV_f ?_ | refine then_e ?_ | refine then_r ?_ | refine block_n ?_ | refine block_r ?_ | refine block_e ?_ | refine aw_block ?_ | refine aw_skip ?_ | refine aw_ret ?_ | refine aw_exit ?_ | refine aw_loop ?_ | refine aw_condc_t ?_ | refine aw_condc_f ?_ | refine draw_nil ?_ | refine regD fun K hK => ?_)
        | (with_reducible refine hK _ ?_; clear hK K)
        | (with_reducible refine hK _ _ ?_ ?_; (· kernel_rfl); clear hK K)
        | ((with_reducible first | refine gO_some ?_ ?_ | refine aw_condE ?_ ?_ | refine block_o ?_ ?_); (· decide))
        | (with_reducible refine aw_drawB tk0 lv_trammel_trammellaw04_CutLong ?_ ?_; (· kernel_rfl))
        | ((with_reducible first | refine guardG_b (fun hc => ?_) (fun hc => ?_) | refine condV_b (fun hc => ?_) (fun hc => ?_)) <;> (try simp only [decide_eq_true_eq, decide_eq_false_iff_not, Bool.not_true, Bool.not_false, Bool.not_eq_true', Bool.not_eq_false'] at hc) <;> (try (exfalso; omega)))
        | (with_reducible refine and_i ?_ ?_; (· first | omega | assumption | (refine ⟨?_, ?_⟩ <;> (first | omega | assumption | (simp only [List.length_append, List.length_map, List.length_cons, List.length_nil] <;> omega))) | (refine ⟨?_, ?_, ?_⟩ <;> (first | omega | assumption | (simp only [List.length_append, List.length_map, List.length_cons, List.length_nil] <;> omega))) | (simp only [List.length_append, List.length_map, List.length_cons, List.length_nil] <;> omega)))
        | (with_reducible refine ex_seal ?_)
        | fail)
      refine awl_keep [0, 5, 6, 7, 8, 9] (by simp only [go_sem, ↓reduceIte, Nat.reduceEqDiff, Nat.reduceLT, Nat.reduceLeDiff, Nat.reduceAdd, Nat.reduceSub, Nat.reduceMul, Nat.reduceBEq, Nat.reduceBNe, Nat.reducePow, Int.reduceToNat, Int.reduceLE, Int.reduceLT, Int.reduceMul, Int.reduceEq, Int.reducePow, Int.reduceAdd, Int.reduceSub, Int.reduceNeg, reduceCtorEq]; exact rfl) ?_
      exact ih'
    have hjk' : ((j : Int) < (k : Int)) = False := eq_false (by omega)
    obtain rfl : j = k := by omega
    clear ih
    by_cases hl : j ≤ 4096
    · have hl' : ((4096 : Int) < (j : Int)) = False := eq_false (by omega)
      rw [lines_1 j hl] at hB
      unfold linesR at hB
      simp only [err_0, hlen] at hB
      repeat' (first
        | (with_reducible refine hY _ ?_; clear hY Y)
        | ((with_reducible first | refine run_n rfl (runN fun K' hK' => todo ?_) | refine hK' _ (eqTo2 fun Y hY => todo ?_) | refine run_g rfl (eqTo2 fun Y hY => todo ?_) | refine eqTo2 fun Y hY => todo ?_ | refine runN fun K' hK' => todo ?_ | refine aw_regionB tk0 lv_trammel_trammellaw04_CutLong (eqTo2 fun Y hY => todo ?_) | refine todo ?_ | refine qretT_r ?_ | refine draw_n rfl (drawN fun K' hK' => todo ?_) | refine hK' _ _ (eqTo2 fun Y hY => todo ?_) | refine draw_g rfl (eqTo2 fun Y hY => todo ?_) | refine drawN fun K' hK' => todo ?_ | refine qretT_n ?_); (try clear hK' K'); (try dsimp only [aop]); try simp only [go_sem, ↓reduceIte, Nat.reduceEqDiff, Nat.reduceLT, Nat.reduceLeDiff, Nat.reduceAdd, Nat.reduceSub, Nat.reduceMul, Nat.reduceBEq, Nat.reduceBNe, Nat.reducePow, Int.reduceToNat, Int.reduceLE, Int.reduceLT, Int.reduceMul, Int.reduceEq, Int.reducePow, Int.reduceAdd, Int.reduceSub, Int.reduceNeg, reduceCtorEq, lv_trammel_trammellaw04_CutLong, Tryd.results5, hjk', hl', hw0, hkb2, hkb3])
        | (with_reducible first | refine run_nil ?_ | refine guardG_n rfl ?_ | refine guardG_y ?_ | refine guardG_u ?_ | refine andD ?_ ?_ | refine then_n ?_ | refine aw_seq ?_ | refine regN fun K hK => ?_ | refine condV_t ?_ | refine condV_f ?_ | refine then_e ?_ | refine then_r ?_ | refine block_n ?_ | refine block_r ?_ | refine block_e ?_ | refine aw_block ?_ | refine aw_skip ?_ | refine aw_ret ?_ | refine aw_exit ?_ | refine aw_loop ?_ | refine aw_condc_t ?_ | refine aw_condc_f ?_ | refine draw_nil ?_ | refine regD fun K hK => ?_)
        | (with_reducible refine hK _ ?_; clear hK K)
        | (with_reducible refine hK _ _ ?_ ?_; (· kernel_rfl); clear hK K)
        | ((with_reducible first | refine gO_some ?_ ?_ | refine aw_condE ?_ ?_ | refine block_o ?_ ?_); (· decide))
        | (with_reducible refine aw_drawB tk0 lv_trammel_trammellaw04_CutLong ?_ ?_; (· kernel_rfl))
        | ((with_reducible first | refine guardG_b (fun hc => ?_) (fun hc => ?_) | refine condV_b (fun hc => ?_) (fun hc => ?_)) <;> (try simp only [decide_eq_true_eq, decide_eq_false_iff_not, Bool.not_true, Bool.not_false, Bool.not_eq_true', Bool.not_eq_false'] at hc) <;> (try (exfalso; omega)))
        | (with_reducible refine and_i ?_ ?_; (· first | omega | assumption | (refine ⟨?_, ?_⟩ <;> (first | omega | assumption | (simp only [List.length_append, List.length_map, List.length_cons, List.length_nil] <;> omega))) | (refine ⟨?_, ?_, ?_⟩ <;> (first | omega | assumption | (simp only [List.length_append, List.length_map, List.length_cons, List.length_nil] <;> omega))) | (simp only [List.length_append, List.length_map, List.length_cons, List.length_nil] <;> omega)))
        | (with_reducible refine ex_callT (afn_frame hB ?_) ?_; (· simp [pureA]))
        | (with_reducible refine ex_okT (eql_nil) ?_)
        | (with_reducible refine ex_okT (eql_code _ _) ?_)
        | (with_reducible refine ex_seal ?_)
        | fail)
      all_goals simp [hwk]
    · have hl' : ((4096 : Int) < (j : Int)) = True := eq_true (by omega)
      rw [lines_1b j (by omega)] at hB
      unfold linesR at hB
      rw [show errA (2, (-1 : Int), ([] : List Ln)).1 (2, (-1 : Int), ([] : List Ln)).2.1 = codeA 2 from rfl, code_2] at hB
      repeat' (first
        | (with_reducible refine hY _ ?_; clear hY Y)
        | ((with_reducible first | refine run_n rfl (runN fun K' hK' => todo ?_) | refine hK' _ (eqTo2 fun Y hY => todo ?_) | refine run_g rfl (eqTo2 fun Y hY => todo ?_) | refine eqTo2 fun Y hY => todo ?_ | refine runN fun K' hK' => todo ?_ | refine aw_regionB tk0 lv_trammel_trammellaw04_CutLong (eqTo2 fun Y hY => todo ?_) | refine todo ?_ | refine qretT_r ?_ | refine draw_n rfl (drawN fun K' hK' => todo ?_) | refine hK' _ _ (eqTo2 fun Y hY => todo ?_) | refine draw_g rfl (eqTo2 fun Y hY => todo ?_) | refine drawN fun K' hK' => todo ?_ | refine qretT_n ?_); (try clear hK' K'); (try dsimp only [aop]); try simp only [go_sem, ↓reduceIte, Nat.reduceEqDiff, Nat.reduceLT, Nat.reduceLeDiff, Nat.reduceAdd, Nat.reduceSub, Nat.reduceMul, Nat.reduceBEq, Nat.reduceBNe, Nat.reducePow, Int.reduceToNat, Int.reduceLE, Int.reduceLT, Int.reduceMul, Int.reduceEq, Int.reducePow, Int.reduceAdd, Int.reduceSub, Int.reduceNeg, reduceCtorEq, lv_trammel_trammellaw04_CutLong, Tryd.results5, hjk', hl', hw0, hkb2, hkb3])
        | (with_reducible first | refine run_nil ?_ | refine guardG_n rfl ?_ | refine guardG_y ?_ | refine guardG_u ?_ | refine andD ?_ ?_ | refine then_n ?_ | refine aw_seq ?_ | refine regN fun K hK => ?_ | refine condV_t ?_ | refine condV_f ?_ | refine then_e ?_ | refine then_r ?_ | refine block_n ?_ | refine block_r ?_ | refine block_e ?_ | refine aw_block ?_ | refine aw_skip ?_ | refine aw_ret ?_ | refine aw_exit ?_ | refine aw_loop ?_ | refine aw_condc_t ?_ | refine aw_condc_f ?_ | refine draw_nil ?_ | refine regD fun K hK => ?_)
        | (with_reducible refine hK _ ?_; clear hK K)
        | (with_reducible refine hK _ _ ?_ ?_; (· kernel_rfl); clear hK K)
        | ((with_reducible first | refine gO_some ?_ ?_ | refine aw_condE ?_ ?_ | refine block_o ?_ ?_); (· decide))
        | (with_reducible refine aw_drawB tk0 lv_trammel_trammellaw04_CutLong ?_ ?_; (· kernel_rfl))
        | ((with_reducible first | refine guardG_b (fun hc => ?_) (fun hc => ?_) | refine condV_b (fun hc => ?_) (fun hc => ?_)) <;> (try simp only [decide_eq_true_eq, decide_eq_false_iff_not, Bool.not_true, Bool.not_false, Bool.not_eq_true', Bool.not_eq_false'] at hc) <;> (try (exfalso; omega)))
        | (with_reducible refine and_i ?_ ?_; (· first | omega | assumption | (refine ⟨?_, ?_⟩ <;> (first | omega | assumption | (simp only [List.length_append, List.length_map, List.length_cons, List.length_nil] <;> omega))) | (refine ⟨?_, ?_, ?_⟩ <;> (first | omega | assumption | (simp only [List.length_append, List.length_map, List.length_cons, List.length_nil] <;> omega))) | (simp only [List.length_append, List.length_map, List.length_cons, List.length_nil] <;> omega)))
        | (with_reducible refine ex_callT (afn_frame hB ?_) ?_; (· simp [pureA]))
        | (with_reducible refine ex_okT (eql_nil) ?_)
        | (with_reducible refine ex_okT (eql_code _ _) ?_)
        | (with_reducible refine ex_seal ?_)
        | fail)
      all_goals simp [hwk]
  · have hC := call_2 k hk
    have hu := pure_rep k
    repeat' (first
      | (with_reducible refine hY _ ?_; clear hY Y)
      | ((with_reducible first | refine run_n rfl (runN fun K' hK' => todo ?_) | refine hK' _ (eqTo2 fun Y hY => todo ?_) | refine run_g rfl (eqTo2 fun Y hY => todo ?_) | refine eqTo2 fun Y hY => todo ?_ | refine runN fun K' hK' => todo ?_ | refine aw_regionB tk0 lv_trammel_trammellaw04_CutLong (eqTo2 fun Y hY => todo ?_) | refine todo ?_ | refine qretT_r ?_ | refine draw_n rfl (drawN fun K' hK' => todo ?_) | refine hK' _ _ (eqTo2 fun Y hY => todo ?_) | refine draw_g rfl (eqTo2 fun Y hY => todo ?_) | refine drawN fun K' hK' => todo ?_ | refine qretT_n ?_); (try clear hK' K'); (try dsimp only [aop]); try simp only [go_sem, ↓reduceIte, Nat.reduceEqDiff, Nat.reduceLT, Nat.reduceLeDiff, Nat.reduceAdd, Nat.reduceSub, Nat.reduceMul, Nat.reduceBEq, Nat.reduceBNe, Nat.reducePow, Int.reduceToNat, Int.reduceLE, Int.reduceLT, Int.reduceMul, Int.reduceEq, Int.reducePow, Int.reduceAdd, Int.reduceSub, Int.reduceNeg, reduceCtorEq, lv_trammel_trammellaw04_CutLong, Tryd.results5, hkb2, hkb3])
      | (with_reducible first | refine run_nil ?_ | refine guardG_n rfl ?_ | refine guardG_y ?_ | refine guardG_u ?_ | refine andD ?_ ?_ | refine then_n ?_ | refine aw_seq ?_ | refine regN fun K hK => ?_ | refine condV_t ?_ | refine condV_f ?_ | refine then_e ?_ | refine then_r ?_ | refine block_n ?_ | refine block_r ?_ | refine block_e ?_ | refine aw_block ?_ | refine aw_skip ?_ | refine aw_ret ?_ | refine aw_exit ?_ | refine aw_loop ?_ | refine aw_condc_t ?_ | refine aw_condc_f ?_ | refine draw_nil ?_ | refine regD fun K hK => ?_)
      | (with_reducible refine hK _ ?_; clear hK K)
      | (with_reducible refine hK _ _ ?_ ?_; (· kernel_rfl); clear hK K)
      | ((with_reducible first | refine gO_some ?_ ?_ | refine aw_condE ?_ ?_ | refine block_o ?_ ?_); (· decide))
      | (with_reducible refine aw_drawB tk0 lv_trammel_trammellaw04_CutLong ?_ ?_; (· kernel_rfl))
      | ((with_reducible first | refine guardG_b (fun hc => ?_) (fun hc => ?_) | refine condV_b (fun hc => ?_) (fun hc => ?_)) <;> (try simp only [decide_eq_true_eq, decide_eq_false_iff_not, Bool.not_true, Bool.not_false, Bool.not_eq_true', Bool.not_eq_false'] at hc) <;> (try (exfalso; omega)))
      | (with_reducible refine and_i ?_ ?_; (· first | omega | assumption | (refine ⟨?_, ?_⟩ <;> (first | omega | assumption | (simp only [List.length_append, List.length_map, List.length_cons, List.length_nil] <;> omega))) | (refine ⟨?_, ?_, ?_⟩ <;> (first | omega | assumption | (simp only [List.length_append, List.length_map, List.length_cons, List.length_nil] <;> omega))) | (simp only [List.length_append, List.length_map, List.length_cons, List.length_nil] <;> omega)))
      | (with_reducible refine ex_mut ?_)
      | (with_reducible refine ex_seal ?_)
      | fail)
    refine awl_ind (α := Nat) (fun j => [(0, inA (k : Int)), (5, .c (.bool true)), (8, inA 2), (10, .arr 10029 0 k 41), (11, inA (j : Int)), (10029, .bc (repA [inA 0, inA 1] j ++ repA [inA 0, inA 0] (k - j)) 41)])
      (fun j => j ≤ k) (fun j => k - j) 0 [0, 5, 8, 10, 11] ?_ (Nat.zero_le _) ?_
    · simp only [go_sem, ↓reduceIte, Nat.reduceEqDiff, Nat.reduceLT, Nat.reduceLeDiff, Nat.reduceAdd, Nat.reduceSub, Nat.reduceMul, Nat.reduceBEq, Nat.reduceBNe, Nat.reducePow, Int.reduceToNat, Int.reduceLE, Int.reduceLT, Int.reduceMul, Int.reduceEq, Int.reducePow, Int.reduceAdd, Int.reduceSub, Int.reduceNeg, reduceCtorEq, repA] <;> rfl
    intro j hj ih
    by_cases hjk : j < k
    · have hjk' : ((j : Int) < (k : Int)) = True := eq_true (by omega)
      have hjw := wrap_1 (n := j) (by omega)
      have hcl : (repA [inA 0, inA 1] j ++ repA [inA 0, inA 0] (k - j)).length = k * 2 := by rw [List.length_append, repA_len, repA_len]; simp; omega
      have hpt := put_rep j (k - j) (by omega)
      unfold putAt at hpt
      have ih' := ih (j + 1) (by omega) (by omega)
      rw [show k - (j + 1) = k - j - 1 by omega, ← hpt] at ih'
      clear ih hC hpt
      generalize repA [inA 0, inA 1] j ++ repA [inA 0, inA 0] (k - j) = RJ at *
      repeat' (first
        | (with_reducible refine hY _ ?_; clear hY Y)
        | ((with_reducible first | refine run_n rfl (runN fun K' hK' => todo ?_) | refine hK' _ (eqTo2 fun Y hY => todo ?_) | refine run_g rfl (eqTo2 fun Y hY => todo ?_) | refine eqTo2 fun Y hY => todo ?_ | refine runN fun K' hK' => todo ?_ | refine aw_regionB tk0 lv_trammel_trammellaw04_CutLong (eqTo2 fun Y hY => todo ?_) | refine todo ?_ | refine qretT_r ?_ | refine draw_n rfl (drawN fun K' hK' => todo ?_) | refine hK' _ _ (eqTo2 fun Y hY => todo ?_) | refine draw_g rfl (eqTo2 fun Y hY => todo ?_) | refine drawN fun K' hK' => todo ?_ | refine qretT_n ?_); (try clear hK' K'); (try dsimp only [aop]); try simp only [go_sem, ↓reduceIte, Nat.reduceEqDiff, Nat.reduceLT, Nat.reduceLeDiff, Nat.reduceAdd, Nat.reduceSub, Nat.reduceMul, Nat.reduceBEq, Nat.reduceBNe, Nat.reducePow, Int.reduceToNat, Int.reduceLE, Int.reduceLT, Int.reduceMul, Int.reduceEq, Int.reducePow, Int.reduceAdd, Int.reduceSub, Int.reduceNeg, reduceCtorEq, lv_trammel_trammellaw04_CutLong, Tryd.results5, hjk', hjw, hcl])
        | (with_reducible first | refine run_nil ?_ | refine guardG_n rfl ?_ | refine guardG_y ?_ | refine guardG_u ?_ | refine andD ?_ ?_ | refine then_n ?_ | refine aw_seq ?_ | refine regN fun K hK => ?_ | refine condV_t ?_ | refine condV_f ?_ | refine then_e ?_ | refine then_r ?_ | refine block_n ?_ | refine block_r ?_ | refine block_e ?_ | refine aw_block ?_ | refine aw_skip ?_ | refine aw_ret ?_ | refine aw_exit ?_ | refine aw_loop ?_ | refine aw_condc_t ?_ | refine aw_condc_f ?_ | refine draw_nil ?_ | refine regD fun K hK => ?_)
        | (with_reducible refine hK _ ?_; clear hK K)
        | (with_reducible refine hK _ _ ?_ ?_; (· kernel_rfl); clear hK K)
        | ((with_reducible first | refine gO_some ?_ ?_ | refine aw_condE ?_ ?_ | refine block_o ?_ ?_); (· decide))
        | (with_reducible refine aw_drawB tk0 lv_trammel_trammellaw04_CutLong ?_ ?_; (· kernel_rfl))
        | ((with_reducible first | refine guardG_b (fun hc => ?_) (fun hc => ?_) | refine condV_b (fun hc => ?_) (fun hc => ?_)) <;> (try simp only [decide_eq_true_eq, decide_eq_false_iff_not, Bool.not_true, Bool.not_false, Bool.not_eq_true', Bool.not_eq_false'] at hc) <;> (try (exfalso; omega)))
        | (with_reducible refine and_i ?_ ?_; (· first | omega | assumption | (refine ⟨?_, ?_⟩ <;> (first | omega | assumption | (simp only [List.length_append, List.length_map, List.length_cons, List.length_nil] <;> omega))) | (refine ⟨?_, ?_, ?_⟩ <;> (first | omega | assumption | (simp only [List.length_append, List.length_map, List.length_cons, List.length_nil] <;> omega))) | (simp only [List.length_append, List.length_map, List.length_cons, List.length_nil] <;> omega)))
        | (with_reducible refine ex_seal ?_)
        | fail)
      refine awl_keep [0, 5, 8, 10, 11] (by simp only [go_sem, ↓reduceIte, Nat.reduceEqDiff, Nat.reduceLT, Nat.reduceLeDiff, Nat.reduceAdd, Nat.reduceSub, Nat.reduceMul, Nat.reduceBEq, Nat.reduceBNe, Nat.reducePow, Int.reduceToNat, Int.reduceLE, Int.reduceLT, Int.reduceMul, Int.reduceEq, Int.reducePow, Int.reduceAdd, Int.reduceSub, Int.reduceNeg, reduceCtorEq]; exact rfl) ?_
      refine awl_eq ih' ?_
      simp
    have hjk' : ((j : Int) < (k : Int)) = False := eq_false (by omega)
    obtain rfl : j = k := by omega
    clear ih
    rw [Nat.sub_self, show repA [inA 0, inA 0] 0 = [] from rfl, List.append_nil]
    generalize repA [inA 0, inA 1] j = RJ at *
    repeat' (first
      | (with_reducible refine hY _ ?_; clear hY Y)
      | ((with_reducible first | refine run_n rfl (runN fun K' hK' => todo ?_) | refine hK' _ (eqTo2 fun Y hY => todo ?_) | refine run_g rfl (eqTo2 fun Y hY => todo ?_) | refine eqTo2 fun Y hY => todo ?_ | refine runN fun K' hK' => todo ?_ | refine todo ?_ | refine qretT_r ?_ | refine draw_n rfl (drawN fun K' hK' => todo ?_) | refine hK' _ _ (eqTo2 fun Y hY => todo ?_) | refine draw_g rfl (eqTo2 fun Y hY => todo ?_) | refine drawN fun K' hK' => todo ?_ | refine qretT_n ?_); (try clear hK' K'); (try dsimp only [aop]); try simp only [go_sem, ↓reduceIte, Nat.reduceEqDiff, Nat.reduceLT, Nat.reduceLeDiff, Nat.reduceAdd, Nat.reduceSub, Nat.reduceMul, Nat.reduceBEq, Nat.reduceBNe, Nat.reducePow, Int.reduceToNat, Int.reduceLE, Int.reduceLT, Int.reduceMul, Int.reduceEq, Int.reducePow, Int.reduceAdd, Int.reduceSub, Int.reduceNeg, reduceCtorEq, lv_trammel_trammellaw04_CutLong, Tryd.results5, hjk'])
      | (with_reducible first | refine run_nil ?_ | refine guardG_n rfl ?_ | refine guardG_y ?_ | refine guardG_u ?_ | refine andD ?_ ?_ | refine then_n ?_ | refine regN fun K hK => ?_ | refine condV_t ?_ | refine condV_f ?_ | refine then_e ?_ | refine then_r ?_ | refine block_n ?_ | refine block_r ?_ | refine block_e ?_ | refine aw_block ?_ | refine aw_skip ?_ | refine aw_ret ?_ | refine aw_exit ?_ | refine aw_loop ?_ | refine aw_condc_t ?_ | refine aw_condc_f ?_ | refine draw_nil ?_ | refine regD fun K hK => ?_)
      | ((with_reducible refine aw_seqS 15 ?_ ?_); (· rfl))
      | ((with_reducible refine aw_regionBS 15 tk0 lv_trammel_trammellaw04_CutLong ?_ (eqTo2 fun Y hY => todo ?_)); (· rfl); (try dsimp only [aop]); try simp only [go_sem, ↓reduceIte, Nat.reduceEqDiff, Nat.reduceLT, Nat.reduceLeDiff, Nat.reduceAdd, Nat.reduceSub, Nat.reduceMul, Nat.reduceBEq, Nat.reduceBNe, Nat.reducePow, Int.reduceToNat, Int.reduceLE, Int.reduceLT, Int.reduceMul, Int.reduceEq, Int.reducePow, Int.reduceAdd, Int.reduceSub, Int.reduceNeg, reduceCtorEq, lv_trammel_trammellaw04_CutLong, Tryd.results5, hjk'])
      | (with_reducible refine hK _ ?_; clear hK K)
      | (with_reducible refine hK _ _ ?_ ?_; (· kernel_rfl); clear hK K)
      | ((with_reducible first | refine gO_some ?_ ?_ | refine aw_condE ?_ ?_ | refine block_o ?_ ?_); (· decide))
      | ((with_reducible refine aw_drawBS 15 tk0 lv_trammel_trammellaw04_CutLong ?_ ?_ ?_); (· rfl); (· kernel_rfl))
      | ((with_reducible first | refine guardG_b (fun hc => ?_) (fun hc => ?_) | refine condV_b (fun hc => ?_) (fun hc => ?_)) <;> (try simp only [decide_eq_true_eq, decide_eq_false_iff_not, Bool.not_true, Bool.not_false, Bool.not_eq_true', Bool.not_eq_false'] at hc) <;> (try (exfalso; omega)))
      | (with_reducible refine and_i ?_ ?_; (· first | omega | assumption | (refine ⟨?_, ?_⟩ <;> (first | omega | assumption | (simp only [List.length_append, List.length_map, List.length_cons, List.length_nil] <;> omega))) | (refine ⟨?_, ?_, ?_⟩ <;> (first | omega | assumption | (simp only [List.length_append, List.length_map, List.length_cons, List.length_nil] <;> omega))) | (simp only [List.length_append, List.length_map, List.length_cons, List.length_nil] <;> omega)))
      | (with_reducible refine ex_seal ?_)
      | fail)
    refine aw_sealB 10029 ⟨by decide, by decide⟩ rfl rfl hu (by simp only [go_sem, ↓reduceIte, Nat.reduceEqDiff, Nat.reduceLT, Nat.reduceLeDiff, Nat.reduceAdd, Nat.reduceSub, Nat.reduceMul, Nat.reduceBEq, Nat.reduceBNe, Nat.reducePow, Int.reduceToNat, Int.reduceLE, Int.reduceLT, Int.reduceMul, Int.reduceEq, Int.reducePow, Int.reduceAdd, Int.reduceSub, Int.reduceNeg, reduceCtorEq]; exact rfl) ?_
    by_cases hl : j ≤ 64
    · have hl' : ((64 : Int) < (j : Int)) = False := eq_false (by omega)
      rw [lines_2 j hl] at hC
      unfold linesR at hC
      simp only [err_0] at hC
      repeat' (first
        | (with_reducible refine hY _ ?_; clear hY Y)
        | ((with_reducible first | refine run_n rfl (runN fun K' hK' => todo ?_) | refine hK' _ (eqTo2 fun Y hY => todo ?_) | refine run_g rfl (eqTo2 fun Y hY => todo ?_) | refine eqTo2 fun Y hY => todo ?_ | refine runN fun K' hK' => todo ?_ | refine aw_regionB tk0 lv_trammel_trammellaw04_CutLong (eqTo2 fun Y hY => todo ?_) | refine todo ?_ | refine qretT_r ?_ | refine draw_n rfl (drawN fun K' hK' => todo ?_) | refine hK' _ _ (eqTo2 fun Y hY => todo ?_) | refine draw_g rfl (eqTo2 fun Y hY => todo ?_) | refine drawN fun K' hK' => todo ?_ | refine qretT_n ?_); (try clear hK' K'); (try dsimp only [aop]); try simp only [go_sem, ↓reduceIte, Nat.reduceEqDiff, Nat.reduceLT, Nat.reduceLeDiff, Nat.reduceAdd, Nat.reduceSub, Nat.reduceMul, Nat.reduceBEq, Nat.reduceBNe, Nat.reducePow, Int.reduceToNat, Int.reduceLE, Int.reduceLT, Int.reduceMul, Int.reduceEq, Int.reducePow, Int.reduceAdd, Int.reduceSub, Int.reduceNeg, reduceCtorEq, lv_trammel_trammellaw04_CutLong, Tryd.results5, hl'])
        | (with_reducible first | refine run_nil ?_ | refine guardG_n rfl ?_ | refine guardG_y ?_ | refine guardG_u ?_ | refine andD ?_ ?_ | refine then_n ?_ | refine aw_seq ?_ | refine regN fun K hK => ?_ | refine condV_t ?_ | refine condV_f ?_ | refine then_e ?_ | refine then_r ?_ | refine block_n ?_ | refine block_r ?_ | refine block_e ?_ | refine aw_block ?_ | refine aw_skip ?_ | refine aw_ret ?_ | refine aw_exit ?_ | refine aw_loop ?_ | refine aw_condc_t ?_ | refine aw_condc_f ?_ | refine draw_nil ?_ | refine regD fun K hK => ?_)
        | (with_reducible refine hK _ ?_; clear hK K)
        | (with_reducible refine hK _ _ ?_ ?_; (· kernel_rfl); clear hK K)
        | ((with_reducible first | refine gO_some ?_ ?_ | refine aw_condE ?_ ?_ | refine block_o ?_ ?_); (· decide))
        | (with_reducible refine aw_drawB tk0 lv_trammel_trammellaw04_CutLong ?_ ?_; (· kernel_rfl))
        | ((with_reducible first | refine guardG_b (fun hc => ?_) (fun hc => ?_) | refine condV_b (fun hc => ?_) (fun hc => ?_)) <;> (try simp only [decide_eq_true_eq, decide_eq_false_iff_not, Bool.not_true, Bool.not_false, Bool.not_eq_true', Bool.not_eq_false'] at hc) <;> (try (exfalso; omega)))
        | (with_reducible refine and_i ?_ ?_; (· first | omega | assumption | (refine ⟨?_, ?_⟩ <;> (first | omega | assumption | (simp only [List.length_append, List.length_map, List.length_cons, List.length_nil] <;> omega))) | (refine ⟨?_, ?_, ?_⟩ <;> (first | omega | assumption | (simp only [List.length_append, List.length_map, List.length_cons, List.length_nil] <;> omega))) | (simp only [List.length_append, List.length_map, List.length_cons, List.length_nil] <;> omega)))
        | (with_reducible refine ex_callT (hC) ?_)
        | (with_reducible refine ex_okT (eql_nil) ?_)
        | (with_reducible refine ex_okT (eql_code _ _) ?_)
        | (with_reducible refine ex_seal ?_)
        | fail)
      all_goals rfl
    · have hl' : ((64 : Int) < (j : Int)) = True := eq_true (by omega)
      rw [lines_2b j (by omega)] at hC
      have hi : AFn Tryd.prog 14 [spotA 0 2, inA 0, inA 2] [] (.c (.bool true)) [] := is_spot_k 0 0 2 2 (by decide)
      unfold linesR at hC
      rw [show errA (2, (0 : Int), ([] : List Ln)).1 (2, (0 : Int), ([] : List Ln)).2.1 = spotA 0 2 from rfl] at hC
      unfold spotA at hC hi
      repeat' (first
        | (with_reducible refine hY _ ?_; clear hY Y)
        | ((with_reducible first | refine run_n rfl (runN fun K' hK' => todo ?_) | refine hK' _ (eqTo2 fun Y hY => todo ?_) | refine run_g rfl (eqTo2 fun Y hY => todo ?_) | refine eqTo2 fun Y hY => todo ?_ | refine runN fun K' hK' => todo ?_ | refine aw_regionB tk0 lv_trammel_trammellaw04_CutLong (eqTo2 fun Y hY => todo ?_) | refine todo ?_ | refine qretT_r ?_ | refine draw_n rfl (drawN fun K' hK' => todo ?_) | refine hK' _ _ (eqTo2 fun Y hY => todo ?_) | refine draw_g rfl (eqTo2 fun Y hY => todo ?_) | refine drawN fun K' hK' => todo ?_ | refine qretT_n ?_); (try clear hK' K'); (try dsimp only [aop]); try simp only [go_sem, ↓reduceIte, Nat.reduceEqDiff, Nat.reduceLT, Nat.reduceLeDiff, Nat.reduceAdd, Nat.reduceSub, Nat.reduceMul, Nat.reduceBEq, Nat.reduceBNe, Nat.reducePow, Int.reduceToNat, Int.reduceLE, Int.reduceLT, Int.reduceMul, Int.reduceEq, Int.reducePow, Int.reduceAdd, Int.reduceSub, Int.reduceNeg, reduceCtorEq, lv_trammel_trammellaw04_CutLong, Tryd.results5, hl'])
        | (with_reducible first | refine run_nil ?_ | refine guardG_n rfl ?_ | refine guardG_y ?_ | refine guardG_u ?_ | refine andD ?_ ?_ | refine then_n ?_ | refine aw_seq ?_ | refine regN fun K hK => ?_ | refine condV_t ?_ | refine condV_f ?_ | refine then_e ?_ | refine then_r ?_ | refine block_n ?_ | refine block_r ?_ | refine block_e ?_ | refine aw_block ?_ | refine aw_skip ?_ | refine aw_ret ?_ | refine aw_exit ?_ | refine aw_loop ?_ | refine aw_condc_t ?_ | refine aw_condc_f ?_ | refine draw_nil ?_ | refine regD fun K hK => ?_)
        | (with_reducible refine hK _ ?_; clear hK K)
        | (with_reducible refine hK _ _ ?_ ?_; (· kernel_rfl); clear hK K)
        | ((with_reducible first | refine gO_some ?_ ?_ | refine aw_condE ?_ ?_ | refine block_o ?_ ?_); (· decide))
        | (with_reducible refine aw_drawB tk0 lv_trammel_trammellaw04_CutLong ?_ ?_; (· kernel_rfl))
        | ((with_reducible first | refine guardG_b (fun hc => ?_) (fun hc => ?_) | refine condV_b (fun hc => ?_) (fun hc => ?_)) <;> (try simp only [decide_eq_true_eq, decide_eq_false_iff_not, Bool.not_true, Bool.not_false, Bool.not_eq_true', Bool.not_eq_false'] at hc) <;> (try (exfalso; omega)))
        | (with_reducible refine and_i ?_ ?_; (· first | omega | assumption | (refine ⟨?_, ?_⟩ <;> (first | omega | assumption | (simp only [List.length_append, List.length_map, List.length_cons, List.length_nil] <;> omega))) | (refine ⟨?_, ?_, ?_⟩ <;> (first | omega | assumption | (simp only [List.length_append, List.length_map, List.length_cons, List.length_nil] <;> omega))) | (simp only [List.length_append, List.length_map, List.length_cons, List.length_nil] <;> omega)))
        | (with_reducible refine ex_callT (hC) ?_)
        | (with_reducible refine ex_callT (hi) ?_)
        | (with_reducible refine ex_okT (eql_nil) ?_)
        | (with_reducible refine ex_okT (eql_code _ _) ?_)
        | (with_reducible refine ex_seal ?_)
        | fail)
end Go.Proofs.YtijpbgflkdjcdaaDoor
