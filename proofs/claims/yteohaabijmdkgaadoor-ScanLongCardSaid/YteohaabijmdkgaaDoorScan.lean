/- scan.Scan: what it answers, and that it does, in K. -/
import Derived.Test.YteohaabijmdkgaaDoorTokB
namespace Go.Proofs.YteohaabijmdkgaaDoor
set_option linter.unusedSimpArgs false
set_option linter.unusedVariables false
open Go.RowKit
def blanksL : List UInt8 := [32, 9, 10]
def slashL : List UInt8 := [47, 47]
inductive Step where
  | skip (n : Nat)
  | tok (t : Tok)
  | err (e : Nat)
/-- What begins at a place. -/
def stepS (a : Nat) (r : List UInt8) : Step :=
  if 0 < among blanksL r then .skip (among blanksL r)
  else if slashL.isPrefixOf r then .skip (r.takeWhile (· != 10)).length
  else if (tokS a r).2 = 0 then .tok (tokS a r).1 else .err (tokS a r).2
abbrev Res := List Tok × Nat × Int
def scanF : Nat → List Tok → Nat → List UInt8 → Res
  | 0, acc, _, _ => (acc, 0, -1)
  | f + 1, acc, a, r => match r with
    | [] => (acc, 0, -1)
    | c :: r' => match stepS a (c :: r') with
      | .skip n => scanF f acc (a + n) ((c :: r').drop n)
      | .tok t => scanF f (acc ++ [t]) (a + t.text.length) ((c :: r').drop t.text.length)
      | .err e => ([], e, (a : Int))
/-- The tokens of a text, or what is amiss first, and where. -/
def scanL (l : List UInt8) : Res := if 65536 < l.length then ([], 2, -1) else scanF (l.length + 1) [] 0 l
theorem blank_128 : ∀ c ∈ blanksL, c.toNat < 128 := by decide
/-! ### A token is of a byte at least, and of no more than there are. -/
theorem opL_pos : ∀ o ∈ opL, 0 < o.length := by decide
theorem tokS_ok {a : Nat} {r : List UInt8} (h : (tokS a r).2 = 0) : 0 < (tokS a r).1.text.length ∧ (tokS a r).1.text.length ≤ r.length ∧ (tokS a r).1.at0 = a := by
  revert h
  unfold tokS
  split
  · rename_i h1
    split
    · intro h; cases h
    · intro _
      have h2 : 0 < among wordL r := by
        obtain ⟨c, t, e, hc⟩ := among_pos.1 h1
        exact among_pos.2 ⟨c, t, e, by rw [mem_word, ← mem_let, hc]; rfl⟩
      have h3 := among_le wordL r
      refine ⟨?_, ?_, rfl⟩
      · show 0 < (r.take _).length
        rw [List.length_take]; omega
      · show (r.take _).length ≤ _
        rw [List.length_take]; omega
  · split
    · rename_i h1
      split
      · intro h; cases h
      · intro _
        have h3 := among_le digitsL r
        refine ⟨?_, ?_, rfl⟩
        · show 0 < (r.take _).length
          rw [List.length_take]; omega
        · show (r.take _).length ≤ _
          rw [List.length_take]; omega
    · split
      · rename_i o ho
        intro _
        have hm := List.mem_of_find?_eq_some ho
        have hp := List.find?_some ho
        refine ⟨opL_pos o hm, ?_, rfl⟩
        exact (List.isPrefixOf_iff_prefix.1 hp).length_le
      · intro h; cases h
theorem tokS_err (a : Nat) (r : List UInt8) : (tokS a r).2 ≤ 16 := by
  unfold tokS
  repeat' split
  all_goals exact Nat.le_of_ble_eq_true rfl
theorem step_skip {a n : Nat} {r : List UInt8} (h : stepS a r = .skip n) : 0 < n ∧ n ≤ r.length := by
  unfold stepS at h
  split at h
  · cases h; exact ⟨by assumption, among_le _ _⟩
  · split at h
    · rename_i h1
      cases h
      obtain ⟨t, rfl⟩ := List.isPrefixOf_iff_prefix.1 h1
      refine ⟨?_, (List.takeWhile_sublist _).length_le⟩
      show 0 < ((47 :: 47 :: t).takeWhile (· != 10)).length
      rw [List.takeWhile_cons, if_pos (by decide)]; simp
    · split at h <;> cases h
theorem step_tok {a : Nat} {t : Tok} {r : List UInt8} (h : stepS a r = .tok t) : 0 < t.text.length ∧ t.text.length ≤ r.length := by
  unfold stepS at h
  split at h
  · cases h
  · split at h
    · cases h
    · split at h
      · rename_i h1
        cases h
        exact ⟨(tokS_ok h1).1, (tokS_ok h1).2.1⟩
      · cases h
/-! ### More fuel does not matter. -/
theorem scanF_fuel : ∀ (f g : Nat) (acc : List Tok) (a : Nat) (r : List UInt8), r.length < f → r.length < g → scanF f acc a r = scanF g acc a r
  | 0, _, _, _, _, h, _ => absurd h (by omega)
  | _, 0, _, _, _, _, h => absurd h (by omega)
  | f + 1, g + 1, acc, a, [], _, _ => rfl
  | f + 1, g + 1, acc, a, c :: r, h1, h2 => by
    simp only [scanF]
    split
    · rename_i n hn
      have := step_skip hn
      simp only [List.length_cons] at h1 h2 this
      exact scanF_fuel f g _ _ _ (by rw [List.length_drop, List.length_cons]; omega) (by rw [List.length_drop, List.length_cons]; omega)
    · rename_i t hn
      have := step_tok hn
      simp only [List.length_cons] at h1 h2 this
      exact scanF_fuel f g _ _ _ (by rw [List.length_drop, List.length_cons]; omega) (by rw [List.length_drop, List.length_cons]; omega)
    · rfl
/-- From a place on. -/
def scanR (acc : List Tok) (a : Nat) (r : List UInt8) : Res := scanF (r.length + 1) acc a r
theorem scanR_nil (acc : List Tok) (a : Nat) : scanR acc a [] = (acc, 0, -1) := rfl
theorem scanR_skip {acc : List Tok} {a n : Nat} {r : List UInt8} (h0 : 0 < r.length) (h : stepS a r = .skip n) : scanR acc a r = scanR acc (a + n) (r.drop n) := by
  have hn := step_skip h
  cases r with
  | nil => simp at h0
  | cons c r =>
    unfold scanR
    rw [scanF, h]
    simp only
    apply scanF_fuel <;> (rw [List.length_drop]; simp only [List.length_cons] at *; omega)
theorem scanR_tok {acc : List Tok} {a : Nat} {t : Tok} {r : List UInt8} (h0 : 0 < r.length) (h : stepS a r = .tok t) : scanR acc a r = scanR (acc ++ [t]) (a + t.text.length) (r.drop t.text.length) := by
  have hn := step_tok h
  cases r with
  | nil => simp at h0
  | cons c r =>
    unfold scanR
    rw [scanF, h]
    simp only
    apply scanF_fuel <;> (rw [List.length_drop]; simp only [List.length_cons] at *; omega)
theorem scanR_err {acc : List Tok} {a e : Nat} {r : List UInt8} (h0 : 0 < r.length) (h : stepS a r = .err e) : scanR acc a r = ([], e, (a : Int)) := by
  cases r with
  | nil => simp at h0
  | cons c r =>
    unfold scanR
    rw [scanF, h]
def scanA (R : Res) : AV := if R.2.1 = 0 then .tup [.sl (R.1.flatMap tokA) R.1.length .none, .c .nilIface] else .tup [.sl [] 0 .full, errA R.2.1 R.2.2]
def lv_trammel_scan_Scan : Nat → List Nat
  | 0 => [0]
  | 1 => [0]
  | 2 => []
  | 3 => [0]
  | 4 => [0, 4]
  | 5 => [0, 4, 5]
  | 6 => [0, 4, 5]
  | 7 => [0, 4, 5, 6]
  | 8 => [0, 4, 5, 6]
  | 9 => [0, 4, 5]
  | 10 => [0, 4, 5]
  | 11 => [0, 4, 5, 7]
  | 12 => [0, 4, 5]
  | 13 => [0, 4, 5, 10, 11]
  | 14 => [5, 11]
  | 15 => [0, 4, 5, 10]
  | 16 => [0, 4, 5, 10]
  | 17 => [4]
  | _ => []
theorem newlineS : (ByteArray.mk #[10]) = ByteArray.mk [10].toArray := rfl
theorem blanksS : (ByteArray.mk #[32, 9, 10]) = ByteArray.mk blanksL.toArray := rfl
theorem slashS : (ByteArray.mk #[47, 47]) = ByteArray.mk slashL.toArray := rfl
set_option maxRecDepth 100000 in
set_option maxHeartbeats 8000000 in
theorem scan_k (l : List UInt8) : AFn Tryd.prog 7 [bs l] [] (scanA (scanL l)) [] := by
  unfold scanL
  by_cases hl : 65536 < l.length
  · rw [if_pos hl]
    have hl' : ((65536 : Int) < (l.length : Int)) = True := eq_true (by omega)
    refine afn_of [] Tryd.func7 rfl Tryd.ntmps7 (Nat.le_of_ble_eq_true rfl) (Nat.le_of_ble_eq_true rfl) fun w0 G0 B0 Pr hB0 => ?_
    simp only [start, argMap, List.cons_append, List.nil_append]
    repeat' (first
      | (with_reducible refine hY _ ?_; clear hY Y)
      | ((with_reducible first | refine run_n rfl (runN fun K' hK' => todo ?_) | refine hK' _ (eqTo2 fun Y hY => todo ?_) | refine run_g rfl (eqTo2 fun Y hY => todo ?_) | refine eqTo2 fun Y hY => todo ?_ | refine runN fun K' hK' => todo ?_ | refine aw_regionB tk0 lv_trammel_scan_Scan (eqTo2 fun Y hY => todo ?_) | refine todo ?_ | refine qretT_r ?_ | refine draw_n rfl (drawN fun K' hK' => todo ?_) | refine hK' _ _ (eqTo2 fun Y hY => todo ?_) | refine draw_g rfl (eqTo2 fun Y hY => todo ?_) | refine drawN fun K' hK' => todo ?_ | refine qretT_n ?_); (try clear hK' K'); (try dsimp only [aop]); try simp only [go_sem, ↓reduceIte, Nat.reduceEqDiff, Nat.reduceLT, Nat.reduceLeDiff, Nat.reduceAdd, Nat.reduceSub, Nat.reduceMul, Nat.reduceBEq, Nat.reduceBNe, Nat.reducePow, Int.reduceToNat, Int.reduceLE, Int.reduceLT, Int.reduceMul, Int.reduceEq, Int.reducePow, Int.reduceAdd, Int.reduceSub, Int.reduceNeg, reduceCtorEq, lv_trammel_scan_Scan, Tryd.results7, hl'])
      | (with_reducible first | refine run_nil ?_ | refine guardG_n rfl ?_ | refine guardG_y ?_ | refine guardG_u ?_ | refine andD ?_ ?_ | refine then_n ?_ | refine aw_seq ?_ | refine regN fun K hK => ?_ | refine condV_t ?_ | refine condV_f ?_ | refine then_e ?_ | refine then_r ?_ | refine block_n ?_ | refine block_r ?_ | refine block_e ?_ | refine aw_block ?_ | refine aw_skip ?_ | refine aw_ret ?_ | refine aw_exit ?_ | refine aw_loop ?_ | refine aw_condc_t ?_ | refine aw_condc_f ?_ | refine draw_nil ?_ | refine regD fun K hK => ?_)
      | (with_reducible refine hK _ ?_; clear hK K)
      | (with_reducible refine hK _ _ ?_ ?_; (· kernel_rfl); clear hK K)
      | ((with_reducible first | refine gO_some ?_ ?_ | refine aw_condE ?_ ?_ | refine block_o ?_ ?_); (· decide))
      | (with_reducible refine aw_drawB tk0 lv_trammel_scan_Scan ?_ ?_; (· kernel_rfl))
      | ((with_reducible first | refine guardG_b (fun hc => ?_) (fun hc => ?_) | refine condV_b (fun hc => ?_) (fun hc => ?_)) <;> (try simp only [decide_eq_true_eq, decide_eq_false_iff_not, Bool.not_true, Bool.not_false, Bool.not_eq_true', Bool.not_eq_false'] at hc) <;> (try (exfalso; omega)))
      | (with_reducible refine and_i ?_ ?_; (· first | omega | assumption | (refine ⟨?_, ?_⟩ <;> (first | omega | assumption | (simp only [List.length_append, List.length_map, List.length_cons, List.length_nil] <;> omega))) | (refine ⟨?_, ?_, ?_⟩ <;> (first | omega | assumption | (simp only [List.length_append, List.length_map, List.length_cons, List.length_nil] <;> omega))) | (simp only [List.length_append, List.length_map, List.length_cons, List.length_nil] <;> omega)))
      | (with_reducible refine ex_seal ?_)
      | fail)
    rfl
  rw [if_neg hl]
  have hl' : ((65536 : Int) < (l.length : Int)) = False := eq_false (by omega)
  obtain ⟨R, hR⟩ : ∃ R, R = scanF (l.length + 1) [] 0 l := ⟨_, rfl⟩
  rw [← hR]
  refine afn_of [] Tryd.func7 rfl Tryd.ntmps7 (Nat.le_of_ble_eq_true rfl) (Nat.le_of_ble_eq_true rfl) fun w0 G0 B0 Pr hB0 => ?_
  simp only [start, argMap, List.cons_append, List.nil_append]
  repeat' (first
    | (with_reducible refine hY _ ?_; clear hY Y)
    | ((with_reducible first | refine run_n rfl (runN fun K' hK' => todo ?_) | refine hK' _ (eqTo2 fun Y hY => todo ?_) | refine run_g rfl (eqTo2 fun Y hY => todo ?_) | refine eqTo2 fun Y hY => todo ?_ | refine runN fun K' hK' => todo ?_ | refine aw_regionB tk0 lv_trammel_scan_Scan (eqTo2 fun Y hY => todo ?_) | refine todo ?_ | refine qretT_r ?_ | refine draw_n rfl (drawN fun K' hK' => todo ?_) | refine hK' _ _ (eqTo2 fun Y hY => todo ?_) | refine draw_g rfl (eqTo2 fun Y hY => todo ?_) | refine drawN fun K' hK' => todo ?_ | refine qretT_n ?_); (try clear hK' K'); (try dsimp only [aop]); try simp only [go_sem, ↓reduceIte, Nat.reduceEqDiff, Nat.reduceLT, Nat.reduceLeDiff, Nat.reduceAdd, Nat.reduceSub, Nat.reduceMul, Nat.reduceBEq, Nat.reduceBNe, Nat.reducePow, Int.reduceToNat, Int.reduceLE, Int.reduceLT, Int.reduceMul, Int.reduceEq, Int.reducePow, Int.reduceAdd, Int.reduceSub, Int.reduceNeg, reduceCtorEq, lv_trammel_scan_Scan, Tryd.results7, hl'])
    | (with_reducible first | refine run_nil ?_ | refine guardG_n rfl ?_ | refine guardG_y ?_ | refine guardG_u ?_ | refine andD ?_ ?_ | refine then_n ?_ | refine aw_seq ?_ | refine regN fun K hK => ?_ | refine condV_t ?_ | refine condV_f ?_ | refine then_e ?_ | refine then_r ?_ | refine block_n ?_ | refine block_r ?_ | refine block_e ?_ | refine aw_block ?_ | refine aw_skip ?_ | refine aw_ret ?_ | refine aw_exit ?_ | refine aw_loop ?_ | refine aw_condc_t ?_ | refine aw_condc_f ?_ | refine draw_nil ?_ | refine regD fun K hK => ?_)
    | (with_reducible refine hK _ ?_; clear hK K)
    | (with_reducible refine hK _ _ ?_ ?_; (· kernel_rfl); clear hK K)
    | ((with_reducible first | refine gO_some ?_ ?_ | refine aw_condE ?_ ?_ | refine block_o ?_ ?_); (· decide))
    | (with_reducible refine aw_drawB tk0 lv_trammel_scan_Scan ?_ ?_; (· kernel_rfl))
    | ((with_reducible first | refine guardG_b (fun hc => ?_) (fun hc => ?_) | refine condV_b (fun hc => ?_) (fun hc => ?_)) <;> (try simp only [decide_eq_true_eq, decide_eq_false_iff_not, Bool.not_true, Bool.not_false, Bool.not_eq_true', Bool.not_eq_false'] at hc) <;> (try (exfalso; omega)))
    | (with_reducible refine and_i ?_ ?_; (· first | omega | assumption | (refine ⟨?_, ?_⟩ <;> (first | omega | assumption | (simp only [List.length_append, List.length_map, List.length_cons, List.length_nil] <;> omega))) | (refine ⟨?_, ?_, ?_⟩ <;> (first | omega | assumption | (simp only [List.length_append, List.length_map, List.length_cons, List.length_nil] <;> omega))) | (simp only [List.length_append, List.length_map, List.length_cons, List.length_nil] <;> omega)))
    | (with_reducible refine ex_seal ?_)
    | fail)
  refine awl_le (ale_tok (b := 10060) (t := 4) 37 (by decide) (by decide) rfl rfl) ?_
  refine awl_ind (α := List Tok × Nat) (fun p => [(0, bs l), (4, .sl (p.1.flatMap tokA) p.1.length (.tok 10060)), (5, .c (.int .i64 (p.2 : Int))), (10060, .bt p.1.length 37)])
    (fun p => p.2 ≤ l.length ∧ p.1.length ≤ p.2 ∧ scanR p.1 p.2 (l.drop p.2) = R) (fun p => l.length - p.2) ([], 0) [0, 4, 5] ?_ ⟨Nat.zero_le _, Nat.zero_le _, hR.symm⟩ ?_
  · simp only [go_sem, ↓reduceIte, Nat.reduceEqDiff, Nat.reduceLT, Nat.reduceLeDiff, Nat.reduceAdd, Nat.reduceSub, Nat.reduceMul, Nat.reduceBEq, Nat.reduceBNe, Nat.reducePow, Int.reduceToNat, Int.reduceLE, Int.reduceLT, Int.reduceMul, Int.reduceEq, Int.reducePow, Int.reduceAdd, Int.reduceSub, Int.reduceNeg, reduceCtorEq] <;> rfl
  rintro ⟨acc, a⟩ ⟨ha, hacc, hs⟩ ih
  simp only at ih ha hacc hs ⊢
  clear hR
  by_cases hlt : a < l.length
  case neg =>
    have hlt' : ((a : Int) < (l.length : Int)) = False := eq_false (by omega)
    have he : l.drop a = [] := List.drop_of_length_le (by omega)
    rw [he, scanR_nil] at hs
    subst hs
    repeat' (first
      | (with_reducible refine hY _ ?_; clear hY Y)
      | ((with_reducible first | refine run_n rfl (runN fun K' hK' => todo ?_) | refine hK' _ (eqTo2 fun Y hY => todo ?_) | refine run_g rfl (eqTo2 fun Y hY => todo ?_) | refine eqTo2 fun Y hY => todo ?_ | refine runN fun K' hK' => todo ?_ | refine aw_regionB tk0 lv_trammel_scan_Scan (eqTo2 fun Y hY => todo ?_) | refine todo ?_ | refine qretT_r ?_ | refine draw_n rfl (drawN fun K' hK' => todo ?_) | refine hK' _ _ (eqTo2 fun Y hY => todo ?_) | refine draw_g rfl (eqTo2 fun Y hY => todo ?_) | refine drawN fun K' hK' => todo ?_ | refine qretT_n ?_); (try clear hK' K'); (try dsimp only [aop]); try simp only [go_sem, ↓reduceIte, Nat.reduceEqDiff, Nat.reduceLT, Nat.reduceLeDiff, Nat.reduceAdd, Nat.reduceSub, Nat.reduceMul, Nat.reduceBEq, Nat.reduceBNe, Nat.reducePow, Int.reduceToNat, Int.reduceLE, Int.reduceLT, Int.reduceMul, Int.reduceEq, Int.reducePow, Int.reduceAdd, Int.reduceSub, Int.reduceNeg, reduceCtorEq, lv_trammel_scan_Scan, Tryd.results7, hlt'])
      | (with_reducible first | refine run_nil ?_ | refine guardG_n rfl ?_ | refine guardG_y ?_ | refine guardG_u ?_ | refine andD ?_ ?_ | refine then_n ?_ | refine aw_seq ?_ | refine regN fun K hK => ?_ | refine condV_t ?_ | refine condV_f ?_ | refine then_e ?_ | refine then_r ?_ | refine block_n ?_ | refine block_r ?_ | refine block_e ?_ | refine aw_block ?_ | refine aw_skip ?_ | refine aw_ret ?_ | refine aw_exit ?_ | refine aw_loop ?_ | refine aw_condc_t ?_ | refine aw_condc_f ?_ | refine draw_nil ?_ | refine regD fun K hK => ?_)
      | (with_reducible refine hK _ ?_; clear hK K)
      | (with_reducible refine hK _ _ ?_ ?_; (· kernel_rfl); clear hK K)
      | ((with_reducible first | refine gO_some ?_ ?_ | refine aw_condE ?_ ?_ | refine block_o ?_ ?_); (· decide))
      | (with_reducible refine aw_drawB tk0 lv_trammel_scan_Scan ?_ ?_; (· kernel_rfl))
      | ((with_reducible first | refine guardG_b (fun hc => ?_) (fun hc => ?_) | refine condV_b (fun hc => ?_) (fun hc => ?_)) <;> (try simp only [decide_eq_true_eq, decide_eq_false_iff_not, Bool.not_true, Bool.not_false, Bool.not_eq_true', Bool.not_eq_false'] at hc) <;> (try (exfalso; omega)))
      | (with_reducible refine and_i ?_ ?_; (· first | omega | assumption | (refine ⟨?_, ?_⟩ <;> (first | omega | assumption | (simp only [List.length_append, List.length_map, List.length_cons, List.length_nil] <;> omega))) | (refine ⟨?_, ?_, ?_⟩ <;> (first | omega | assumption | (simp only [List.length_append, List.length_map, List.length_cons, List.length_nil] <;> omega))) | (simp only [List.length_append, List.length_map, List.length_cons, List.length_nil] <;> omega)))
      | (with_reducible refine ex_seal ?_)
      | fail)
    rfl
  have hlt' : ((a : Int) < (l.length : Int)) = True := eq_true (by omega)
  have h0 : 0 < (l.drop a).length := by rw [List.length_drop]; omega
  have h1 := run_k l blanksL blank_128 a ha (by omega)
  by_cases c1 : 0 < among blanksL (l.drop a)
  · have hst : stepS a (l.drop a) = .skip (among blanksL (l.drop a)) := if_pos c1
    have hn := step_skip hst
    rw [scanR_skip h0 hst] at hs
    have c1' : ((0 : Int) < (among blanksL (l.drop a) : Int)) = True := eq_true (by omega)
    generalize among blanksL (l.drop a) = n at *
    rw [List.length_drop] at hn
    rw [List.drop_drop] at hs
    have hw1 : IntKind.i64.wrap ((a : Int) + (n : Int)) = ((a + n : Nat) : Int) := by rw [wrap_i64 (by omega) (by omega)]; omega
    repeat' (first
      | (with_reducible refine hY _ ?_; clear hY Y)
      | ((with_reducible first | refine run_n rfl (runN fun K' hK' => todo ?_) | refine hK' _ (eqTo2 fun Y hY => todo ?_) | refine run_g rfl (eqTo2 fun Y hY => todo ?_) | refine eqTo2 fun Y hY => todo ?_ | refine runN fun K' hK' => todo ?_ | refine aw_regionB tk0 lv_trammel_scan_Scan (eqTo2 fun Y hY => todo ?_) | refine todo ?_ | refine qretT_r ?_ | refine draw_n rfl (drawN fun K' hK' => todo ?_) | refine hK' _ _ (eqTo2 fun Y hY => todo ?_) | refine draw_g rfl (eqTo2 fun Y hY => todo ?_) | refine drawN fun K' hK' => todo ?_ | refine qretT_n ?_); (try clear hK' K'); (try dsimp only [aop]); try simp only [go_sem, ↓reduceIte, Nat.reduceEqDiff, Nat.reduceLT, Nat.reduceLeDiff, Nat.reduceAdd, Nat.reduceSub, Nat.reduceMul, Nat.reduceBEq, Nat.reduceBNe, Nat.reducePow, Int.reduceToNat, Int.reduceLE, Int.reduceLT, Int.reduceMul, Int.reduceEq, Int.reducePow, Int.reduceAdd, Int.reduceSub, Int.reduceNeg, reduceCtorEq, lv_trammel_scan_Scan, Tryd.results7, hlt', blanksS, c1', hw1])
      | (with_reducible first | refine run_nil ?_ | refine guardG_n rfl ?_ | refine guardG_y ?_ | refine guardG_u ?_ | refine andD ?_ ?_ | refine then_n ?_ | refine aw_seq ?_ | refine regN fun K hK => ?_ | refine condV_t ?_ | refine condV_f ?_ | refine then_e ?_ | refine then_r ?_ | refine block_n ?_ | refine block_r ?_ | refine block_e ?_ | refine aw_block ?_ | refine aw_skip ?_ | refine aw_ret ?_ | refine aw_exit ?_ | refine aw_loop ?_ | refine aw_condc_t ?_ | refine aw_condc_f ?_ | refine draw_nil ?_ | refine regD fun K hK => ?_)
      | (with_reducible refine hK _ ?_; clear hK K)
      | (with_reducible refine hK _ _ ?_ ?_; (· kernel_rfl); clear hK K)
      | ((with_reducible first | refine gO_some ?_ ?_ | refine aw_condE ?_ ?_ | refine block_o ?_ ?_); (· decide))
      | (with_reducible refine aw_drawB tk0 lv_trammel_scan_Scan ?_ ?_; (· kernel_rfl))
      | ((with_reducible first | refine guardG_b (fun hc => ?_) (fun hc => ?_) | refine condV_b (fun hc => ?_) (fun hc => ?_)) <;> (try simp only [decide_eq_true_eq, decide_eq_false_iff_not, Bool.not_true, Bool.not_false, Bool.not_eq_true', Bool.not_eq_false'] at hc) <;> (try (exfalso; omega)))
      | (with_reducible refine and_i ?_ ?_; (· first | omega | assumption | (refine ⟨?_, ?_⟩ <;> (first | omega | assumption | (simp only [List.length_append, List.length_map, List.length_cons, List.length_nil] <;> omega))) | (refine ⟨?_, ?_, ?_⟩ <;> (first | omega | assumption | (simp only [List.length_append, List.length_map, List.length_cons, List.length_nil] <;> omega))) | (simp only [List.length_append, List.length_map, List.length_cons, List.length_nil] <;> omega)))
      | (with_reducible refine ex_callT (h1) ?_)
      | (with_reducible refine ex_seal ?_)
      | fail)
    refine awl_keep [0, 4, 5] (by simp only [go_sem, ↓reduceIte, Nat.reduceEqDiff, Nat.reduceLT, Nat.reduceLeDiff, Nat.reduceAdd, Nat.reduceSub, Nat.reduceMul, Nat.reduceBEq, Nat.reduceBNe, Nat.reducePow, Int.reduceToNat, Int.reduceLE, Int.reduceLT, Int.reduceMul, Int.reduceEq, Int.reducePow, Int.reduceAdd, Int.reduceSub, Int.reduceNeg, reduceCtorEq]; exact rfl) ?_
    exact ih (acc, a + n) ⟨by simp only; omega, by simp only; omega, hs⟩ (by simp only; omega)
  have c1' : ((0 : Int) < (among blanksL (l.drop a) : Int)) = False := eq_false (by omega)
  have h2 := hasPre_k (l.drop a) slashL
  by_cases c2 : slashL.isPrefixOf (l.drop a) = true
  · have hst : stepS a (l.drop a) = .skip ((l.drop a).takeWhile (· != 10)).length := by unfold stepS; rw [if_neg c1, if_pos c2]
    have hn := step_skip hst
    rw [scanR_skip h0 hst] at hs
    rw [c2] at h2
    have h3 := cut_k (l.drop a) 10 (by rw [List.length_drop]; omega)
    unfold cutA at h3
    generalize ((l.drop a).takeWhile (· != 10)) = m at *
    rw [List.length_drop] at hn
    rw [List.drop_drop] at hs
    have hw1 : IntKind.i64.wrap ((a : Int) + (m.length : Int)) = ((a + m.length : Nat) : Int) := by rw [wrap_i64 (by omega) (by omega)]; omega
    repeat' (first
      | (with_reducible refine hY _ ?_; clear hY Y)
      | ((with_reducible first | refine run_n rfl (runN fun K' hK' => todo ?_) | refine hK' _ (eqTo2 fun Y hY => todo ?_) | refine run_g rfl (eqTo2 fun Y hY => todo ?_) | refine eqTo2 fun Y hY => todo ?_ | refine runN fun K' hK' => todo ?_ | refine aw_regionB tk0 lv_trammel_scan_Scan (eqTo2 fun Y hY => todo ?_) | refine todo ?_ | refine qretT_r ?_ | refine draw_n rfl (drawN fun K' hK' => todo ?_) | refine hK' _ _ (eqTo2 fun Y hY => todo ?_) | refine draw_g rfl (eqTo2 fun Y hY => todo ?_) | refine drawN fun K' hK' => todo ?_ | refine qretT_n ?_); (try clear hK' K'); (try dsimp only [aop]); try simp only [go_sem, ↓reduceIte, Nat.reduceEqDiff, Nat.reduceLT, Nat.reduceLeDiff, Nat.reduceAdd, Nat.reduceSub, Nat.reduceMul, Nat.reduceBEq, Nat.reduceBNe, Nat.reducePow, Int.reduceToNat, Int.reduceLE, Int.reduceLT, Int.reduceMul, Int.reduceEq, Int.reducePow, Int.reduceAdd, Int.reduceSub, Int.reduceNeg, reduceCtorEq, lv_trammel_scan_Scan, Tryd.results7, hlt', blanksS, slashS, newlineS, c1', hw1])
      | (with_reducible first | refine run_nil ?_ | refine guardG_n rfl ?_ | refine guardG_y ?_ | refine guardG_u ?_ | refine andD ?_ ?_ | refine then_n ?_ | refine aw_seq ?_ | refine regN fun K hK => ?_ | refine condV_t ?_ | refine condV_f ?_ | refine then_e ?_ | refine then_r ?_ | refine block_n ?_ | refine block_r ?_ | refine block_e ?_ | refine aw_block ?_ | refine aw_skip ?_ | refine aw_ret ?_ | refine aw_exit ?_ | refine aw_loop ?_ | refine aw_condc_t ?_ | refine aw_condc_f ?_ | refine draw_nil ?_ | refine regD fun K hK => ?_)
      | (with_reducible refine hK _ ?_; clear hK K)
      | (with_reducible refine hK _ _ ?_ ?_; (· kernel_rfl); clear hK K)
      | ((with_reducible first | refine gO_some ?_ ?_ | refine aw_condE ?_ ?_ | refine block_o ?_ ?_); (· decide))
      | (with_reducible refine aw_drawB tk0 lv_trammel_scan_Scan ?_ ?_; (· kernel_rfl))
      | ((with_reducible first | refine guardG_b (fun hc => ?_) (fun hc => ?_) | refine condV_b (fun hc => ?_) (fun hc => ?_)) <;> (try simp only [decide_eq_true_eq, decide_eq_false_iff_not, Bool.not_true, Bool.not_false, Bool.not_eq_true', Bool.not_eq_false'] at hc) <;> (try (exfalso; omega)))
      | (with_reducible refine and_i ?_ ?_; (· first | omega | assumption | (refine ⟨?_, ?_⟩ <;> (first | omega | assumption | (simp only [List.length_append, List.length_map, List.length_cons, List.length_nil] <;> omega))) | (refine ⟨?_, ?_, ?_⟩ <;> (first | omega | assumption | (simp only [List.length_append, List.length_map, List.length_cons, List.length_nil] <;> omega))) | (simp only [List.length_append, List.length_map, List.length_cons, List.length_nil] <;> omega)))
      | (with_reducible refine ex_callT (h1) ?_)
      | (with_reducible refine ex_callT (h2) ?_)
      | (with_reducible refine ex_callT (h3) ?_)
      | (with_reducible refine ex_seal ?_)
      | fail)
    refine awl_keep [0, 4, 5] (by simp only [go_sem, ↓reduceIte, Nat.reduceEqDiff, Nat.reduceLT, Nat.reduceLeDiff, Nat.reduceAdd, Nat.reduceSub, Nat.reduceMul, Nat.reduceBEq, Nat.reduceBNe, Nat.reducePow, Int.reduceToNat, Int.reduceLE, Int.reduceLT, Int.reduceMul, Int.reduceEq, Int.reducePow, Int.reduceAdd, Int.reduceSub, Int.reduceNeg, reduceCtorEq]; exact rfl) ?_
    exact ih (acc, a + m.length) ⟨by simp only; omega, by simp only; omega, hs⟩ (by simp only; omega)
  have h3 := token_k l a hlt (by omega)
  have herr := tokS_err a (l.drop a)
  rw [Bool.eq_false_iff.2 c2] at h2
  by_cases c3 : (tokS a (l.drop a)).2 = 0
  · have hst : stepS a (l.drop a) = .tok (tokS a (l.drop a)).1 := by unfold stepS; rw [if_neg c1, if_neg c2, if_pos c3]
    have hn := step_tok hst
    rw [scanR_tok h0 hst] at hs
    rw [c3, codeA_0] at h3
    generalize (tokS a (l.drop a)).1 = t at *
    rw [List.length_drop] at hn
    rw [List.drop_drop] at hs
    have hw1 : IntKind.i64.wrap ((a : Int) + (t.text.length : Int)) = ((a + t.text.length : Nat) : Int) := by rw [wrap_i64 (by omega) (by omega)]; omega
    have hfl := fm_len (f := tokA) (k := 3) (fun _ => rfl) acc
    repeat' (first
      | (with_reducible refine hY _ ?_; clear hY Y)
      | ((with_reducible first | refine run_n rfl (runN fun K' hK' => todo ?_) | refine hK' _ (eqTo2 fun Y hY => todo ?_) | refine run_g rfl (eqTo2 fun Y hY => todo ?_) | refine eqTo2 fun Y hY => todo ?_ | refine runN fun K' hK' => todo ?_ | refine aw_regionB tk0 lv_trammel_scan_Scan (eqTo2 fun Y hY => todo ?_) | refine todo ?_ | refine qretT_r ?_ | refine draw_n rfl (drawN fun K' hK' => todo ?_) | refine hK' _ _ (eqTo2 fun Y hY => todo ?_) | refine draw_g rfl (eqTo2 fun Y hY => todo ?_) | refine drawN fun K' hK' => todo ?_ | refine qretT_n ?_); (try clear hK' K'); (try dsimp only [aop]); try simp only [go_sem, ↓reduceIte, Nat.reduceEqDiff, Nat.reduceLT, Nat.reduceLeDiff, Nat.reduceAdd, Nat.reduceSub, Nat.reduceMul, Nat.reduceBEq, Nat.reduceBNe, Nat.reducePow, Int.reduceToNat, Int.reduceLE, Int.reduceLT, Int.reduceMul, Int.reduceEq, Int.reducePow, Int.reduceAdd, Int.reduceSub, Int.reduceNeg, reduceCtorEq, lv_trammel_scan_Scan, Tryd.results7, hlt', blanksS, slashS, c1', hw1, hfl])
      | (with_reducible first | refine run_nil ?_ | refine guardG_n rfl ?_ | refine guardG_y ?_ | refine guardG_u ?_ | refine andD ?_ ?_ | refine then_n ?_ | refine aw_seq ?_ | refine regN fun K hK => ?_ | refine condV_t ?_ | refine condV_f ?_ | refine then_e ?_ | refine then_r ?_ | refine block_n ?_ | refine block_r ?_ | refine block_e ?_ | refine aw_block ?_ | refine aw_skip ?_ | refine aw_ret ?_ | refine aw_exit ?_ | refine aw_loop ?_ | refine aw_condc_t ?_ | refine aw_condc_f ?_ | refine draw_nil ?_ | refine regD fun K hK => ?_)
      | (with_reducible refine hK _ ?_; clear hK K)
      | (with_reducible refine hK _ _ ?_ ?_; (· kernel_rfl); clear hK K)
      | ((with_reducible first | refine gO_some ?_ ?_ | refine aw_condE ?_ ?_ | refine block_o ?_ ?_); (· decide))
      | (with_reducible refine aw_drawB tk0 lv_trammel_scan_Scan ?_ ?_; (· kernel_rfl))
      | ((with_reducible first | refine guardG_b (fun hc => ?_) (fun hc => ?_) | refine condV_b (fun hc => ?_) (fun hc => ?_)) <;> (try simp only [decide_eq_true_eq, decide_eq_false_iff_not, Bool.not_true, Bool.not_false, Bool.not_eq_true', Bool.not_eq_false'] at hc) <;> (try (exfalso; omega)))
      | (with_reducible refine and_i ?_ ?_; (· first | omega | assumption | (refine ⟨?_, ?_⟩ <;> (first | omega | assumption | (simp only [List.length_append, List.length_map, List.length_cons, List.length_nil] <;> omega))) | (refine ⟨?_, ?_, ?_⟩ <;> (first | omega | assumption | (simp only [List.length_append, List.length_map, List.length_cons, List.length_nil] <;> omega))) | (simp only [List.length_append, List.length_map, List.length_cons, List.length_nil] <;> omega)))
      | (with_reducible refine ex_callT (h1) ?_)
      | (with_reducible refine ex_callT (h2) ?_)
      | (with_reducible refine ex_callT (h3) ?_)
      | (with_reducible refine ex_okT (neq_nil) ?_)
      | (with_reducible refine ex_seal ?_)
      | fail)
    refine awl_keep [0, 4, 5] (by simp only [go_sem, ↓reduceIte, Nat.reduceEqDiff, Nat.reduceLT, Nat.reduceLeDiff, Nat.reduceAdd, Nat.reduceSub, Nat.reduceMul, Nat.reduceBEq, Nat.reduceBNe, Nat.reducePow, Int.reduceToNat, Int.reduceLE, Int.reduceLT, Int.reduceMul, Int.reduceEq, Int.reducePow, Int.reduceAdd, Int.reduceSub, Int.reduceNeg, reduceCtorEq]; exact rfl) ?_
    refine awl_eq (ih (acc ++ [t], a + t.text.length) ⟨by simp only; omega, (by simp only [List.length_append, List.length_cons, List.length_nil]; omega), hs⟩ (by simp only; omega)) ?_
    simp
  · have hst : stepS a (l.drop a) = .err (tokS a (l.drop a)).2 := by unfold stepS; rw [if_neg c1, if_neg c2, if_neg c3]
    rw [scanR_err h0 hst] at hs
    rw [codeA_pos c3] at h3
    generalize (tokS a (l.drop a)).1 = t at *
    generalize (tokS a (l.drop a)).2 = e at *
    repeat' (first
      | (with_reducible refine hY _ ?_; clear hY Y)
      | ((with_reducible first | refine run_n rfl (runN fun K' hK' => todo ?_) | refine hK' _ (eqTo2 fun Y hY => todo ?_) | refine run_g rfl (eqTo2 fun Y hY => todo ?_) | refine eqTo2 fun Y hY => todo ?_ | refine runN fun K' hK' => todo ?_ | refine aw_regionB tk0 lv_trammel_scan_Scan (eqTo2 fun Y hY => todo ?_) | refine todo ?_ | refine qretT_r ?_ | refine draw_n rfl (drawN fun K' hK' => todo ?_) | refine hK' _ _ (eqTo2 fun Y hY => todo ?_) | refine draw_g rfl (eqTo2 fun Y hY => todo ?_) | refine drawN fun K' hK' => todo ?_ | refine qretT_n ?_); (try clear hK' K'); (try dsimp only [aop]); try simp only [go_sem, ↓reduceIte, Nat.reduceEqDiff, Nat.reduceLT, Nat.reduceLeDiff, Nat.reduceAdd, Nat.reduceSub, Nat.reduceMul, Nat.reduceBEq, Nat.reduceBNe, Nat.reducePow, Int.reduceToNat, Int.reduceLE, Int.reduceLT, Int.reduceMul, Int.reduceEq, Int.reducePow, Int.reduceAdd, Int.reduceSub, Int.reduceNeg, reduceCtorEq, lv_trammel_scan_Scan, Tryd.results7, hlt', blanksS, slashS, c1'])
      | (with_reducible first | refine run_nil ?_ | refine guardG_n rfl ?_ | refine guardG_y ?_ | refine guardG_u ?_ | refine andD ?_ ?_ | refine then_n ?_ | refine aw_seq ?_ | refine regN fun K hK => ?_ | refine condV_t ?_ | refine condV_f ?_ | refine then_e ?_ | refine then_r ?_ | refine block_n ?_ | refine block_r ?_ | refine block_e ?_ | refine aw_block ?_ | refine aw_skip ?_ | refine aw_ret ?_ | refine aw_exit ?_ | refine aw_loop ?_ | refine aw_condc_t ?_ | refine aw_condc_f ?_ | refine draw_nil ?_ | refine regD fun K hK => ?_)
      | (with_reducible refine hK _ ?_; clear hK K)
      | (with_reducible refine hK _ _ ?_ ?_; (· kernel_rfl); clear hK K)
      | ((with_reducible first | refine gO_some ?_ ?_ | refine aw_condE ?_ ?_ | refine block_o ?_ ?_); (· decide))
      | (with_reducible refine aw_drawB tk0 lv_trammel_scan_Scan ?_ ?_; (· kernel_rfl))
      | ((with_reducible first | refine guardG_b (fun hc => ?_) (fun hc => ?_) | refine condV_b (fun hc => ?_) (fun hc => ?_)) <;> (try simp only [decide_eq_true_eq, decide_eq_false_iff_not, Bool.not_true, Bool.not_false, Bool.not_eq_true', Bool.not_eq_false'] at hc) <;> (try (exfalso; omega)))
      | (with_reducible refine and_i ?_ ?_; (· first | omega | assumption | (refine ⟨?_, ?_⟩ <;> (first | omega | assumption | (simp only [List.length_append, List.length_map, List.length_cons, List.length_nil] <;> omega))) | (refine ⟨?_, ?_, ?_⟩ <;> (first | omega | assumption | (simp only [List.length_append, List.length_map, List.length_cons, List.length_nil] <;> omega))) | (simp only [List.length_append, List.length_map, List.length_cons, List.length_nil] <;> omega)))
      | (with_reducible refine ex_callT (h1) ?_)
      | (with_reducible refine ex_callT (h2) ?_)
      | (with_reducible refine ex_callT (h3) ?_)
      | (with_reducible refine ex_seal ?_)
      | fail)
    subst hs
    unfold scanA errA
    rw [if_neg c3, if_neg (by simp only; omega)]
    unfold spotA
    rw [codeA_pos c3]
end Go.Proofs.YteohaabijmdkgaaDoor
