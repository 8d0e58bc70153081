/- CutStays in K: premises of one's own, lines told, the premises turned. -/
import Derived.Test.YtjabaenpkimmjaaCtP2
import Derived.Test.YtjabaenpkimmjaaCtO
namespace Go.Proofs.Ytjabaenpkimmjaa
set_option linter.unusedSimpArgs false
set_option linter.unusedVariables false
open Go.RowKit
theorem pureA_ow3 (b o n v : Nat) : pureA 3 (.ow b o n v) = none := rfl
theorem pureA_ow4 (b o n v : Nat) : pureA 4 (.ow b o n v) = none := rfl
attribute [local go_sem] pureA_ow3 pureA_ow4 List.any_append
attribute [local go_sem ↓] foA_ref5 foA_ren foA_nm4 foA_exp foA_box foA_fo
theorem ownC_get1 (F : Nat) : ∀ (i : Nat) {ps : List Ln} {k : Nat} (h : k < ps.length), (ownC F i ps).getD (k * 2 + 1) .u = .ow (enc F (i + k)) 0 ps[k].t.length ps[k].t.length
  | i, l :: r, 0, _ => rfl
  | i, l :: r, k + 1, h => by
    have h' : k < r.length := by simpa using h
    have := ownC_get1 F (i + 1) h'
    rw [show (k + 1) * 2 + 1 = k * 2 + 1 + 1 + 1 by omega, ownC, List.getD_cons_succ, List.getD_cons_succ, this]
    simp [Nat.add_assoc, Nat.add_comm 1 k]
theorem ownC_same (F : Nat) : ∀ (i : Nat) {ps qs : List Ln}, ps.map (fun l => (l.c, l.t.length)) = qs.map (fun l => (l.c, l.t.length)) → ownC F i ps = ownC F i qs
  | _, [], [], _ => rfl
  | i, p :: ps, q :: qs, h => by
    simp only [List.map_cons, List.cons.injEq, Prod.mk.injEq] at h
    rw [ownC, ownC, h.1.1, h.1.2, ownC_same F (i + 1) h.2]
  | _, [], _ :: _, h => by simp at h
  | _, _ :: _, [], h => by simp at h
theorem putM2 {t : List Tm} {k : Nat} (h : k < t.length) (y : Int) : putAt (cellsM t) (k * 2 + 1) [inA y] = cellsM (t.set k (t[k].1, y)) := by
  induction t generalizing k with
  | nil => simp at h
  | cons m r ih =>
    cases k with
    | zero => rfl
    | succ k =>
      have h' : k < r.length := by simpa using h
      have := ih h'
      unfold putAt at this ⊢
      rw [show (k + 1) * 2 + 1 = k * 2 + 1 + 1 + 1 by omega]
      simp only [cellsM, List.take_succ_cons, List.cons_append, List.set_cons_succ, List.getElem_cons_succ, List.length_cons, List.length_nil] at this ⊢
      rw [show k * 2 + 1 + 1 + 1 + (0 + 1) = k * 2 + 1 + (0 + 1) + 1 + 1 by omega, List.drop_succ_cons, List.drop_succ_cons, this]
theorem foA_set (rs : List Ln) (i : Nat) (l : Ln) : foA (rs.set i l) = .fo ((famA rs).set i (.br (cellsM l.t) l.t.length 35 2)) := by
  unfold foA famA
  rw [List.map_set]
theorem err_two (e : Nat) (z : Int) : errA e z = .c .nilIface ∨ ∃ T X, errA e z = .ifc T X ∧ (∀ g, ren g 2 X = X) ∧ ∀ b, hasRef b 4 X = false := by
  unfold errA
  split
  · unfold codeA
    split
    · exact .inl rfl
    · exact .inr ⟨_, _, rfl, fun g => rfl, fun b => rfl⟩
  · exact .inr ⟨_, _, rfl, fun g => rfl, fun b => rfl⟩
theorem map_wk0 (l : List AV) : l.map (wkD 0) = l := by
  rw [List.map_congr_left (g := id) fun x _ => by unfold wkD; rfl, List.map_id]
def ln0d : Ln := ⟨0, []⟩
theorem eql_bb (a b : Bool) : ∀ w, (((pure () : Sem Unit) >>= fun _ => binOp .eql 4 (.bool a) (.bool b)) : Sem Value).run Try.prog w = .ok (.bool (a == b)) w := fun w => by
  have ht := Try.underlying4
  have h : ∀ d : Nat, (Op.equalIn (d + 2) 4 (.bool a) (.bool b)).run Try.prog w = .ok (a == b) w := fun d => by
    simp [Op.equalIn, run_underlying ht]
  have h2 : (binOp .eql 4 (.bool a) (.bool b)).run Try.prog w = .ok (.bool (a == b)) w := by
    simp only [binOp]
    simp [Op.equal, Op.maxDepth, h 9998]
  rw [Sem.run_bind]
  exact h2
def lv_trammel_trammellaw04_CutStays : Nat → List Nat
  | 0 => [0, 1]
  | 1 => [0, 1]
  | 2 => [0, 1, 5]
  | 3 => [0, 1, 5, 6]
  | 4 => [5]
  | 5 => [0, 1, 5]
  | 6 => [0, 1, 5, 7]
  | 7 => [0, 1, 5, 7, 8]
  | 8 => [0, 1, 5, 7, 8]
  | 9 => [0, 1, 5, 7, 8]
  | 10 => [0, 1, 5, 7]
  | 11 => [0, 1, 5, 7, 9, 10]
  | 12 => [0, 1, 5, 7, 9, 10, 11]
  | 13 => [0, 1, 5, 7, 9, 10, 11, 12]
  | 14 => [0, 1, 5, 7, 9, 10, 11, 12]
  | 15 => [0, 1, 5, 7, 9, 10, 11, 12]
  | 16 => [0, 1, 5, 7, 9, 10, 11, 12, 13]
  | 17 => [0, 1, 5, 7, 9, 10, 11, 12, 13]
  | 18 => [0, 1, 5, 7, 9, 10, 11, 12, 13]
  | 19 => [0, 1, 5, 9, 10, 11]
  | 20 => [5, 9, 10, 11, 14, 15]
  | _ => []
set_option maxRecDepth 100000 in
set_option maxHeartbeats 16000000 in
theorem cutStays_k (ps : List Ln) (ss : List Stp) (hps : OkPs ps) (hp32 : ps.length ≤ 4398046511000) (hss : OkSs ss) : AFn Try.prog 3 [lnsA ps, stpsA ss] [] (.c (.bool true)) [] := by
  have hlk := light_k ps ss hps.len hss.len
  cases hl : lightN ps ss
  · rw [hl] at hlk
    refine afn_of [] Try.func3 rfl Try.ntmps3 (Nat.le_of_ble_eq_true rfl) (Nat.le_of_ble_eq_true rfl) fun w0 G0 B0 Pr hB0 => ?_
    simp only [start, argMap, List.cons_append, List.nil_append]
    repeat' (first
      | (with_reducible refine hY _ ?_; clear hY Y)
      | ((with_reducible first | refine run_n rfl (runN fun K' hK' => todo ?_) | refine hK' _ (eqTo2 fun Y hY => todo ?_) | refine run_g rfl (eqTo2 fun Y hY => todo ?_) | refine eqTo2 fun Y hY => todo ?_ | refine runN fun K' hK' => todo ?_ | refine aw_regionB tk0 lv_trammel_trammellaw04_CutStays (eqTo2 fun Y hY => todo ?_) | refine todo ?_ | refine qretT_r ?_ | refine draw_n rfl (drawN fun K' hK' => todo ?_) | refine hK' _ _ (eqTo2 fun Y hY => todo ?_) | refine draw_g rfl (eqTo2 fun Y hY => todo ?_) | refine drawN fun K' hK' => todo ?_ | refine qretT_n ?_); (try clear hK' K'); (try dsimp only [aop]); try simp only [go_sem, ↓reduceIte, Nat.reduceEqDiff, Nat.reduceLT, Nat.reduceLeDiff, Nat.reduceAdd, Nat.reduceSub, Nat.reduceMul, Nat.reduceBEq, Nat.reduceBNe, Nat.reducePow, Int.reduceToNat, Int.reduceLE, Int.reduceLT, Int.reduceMul, Int.reduceEq, Int.reducePow, Int.reduceAdd, Int.reduceSub, Int.reduceNeg, reduceCtorEq, lv_trammel_trammellaw04_CutStays, Try.results3])
      | (with_reducible first | refine run_nil ?_ | refine guardG_n rfl ?_ | refine guardG_y ?_ | refine guardG_u ?_ | refine andD ?_ ?_ | refine then_n ?_ | refine aw_seq ?_ | refine regN fun K hK => ?_ | refine condV_t ?_ | refine condV_f ?_ | refine then_e ?_ | refine then_r ?_ | refine block_n ?_ | refine block_r ?_ | refine block_e ?_ | refine aw_block ?_ | refine aw_skip ?_ | refine aw_ret ?_ | refine aw_exit ?_ | refine aw_loop ?_ | refine aw_condc_t ?_ | refine aw_condc_f ?_ | refine draw_nil ?_ | refine regD fun K hK => ?_)
      | (with_reducible refine hK _ ?_; clear hK K)
      | (with_reducible refine hK _ _ ?_ ?_; (· kernel_rfl); clear hK K)
      | ((with_reducible first | refine gO_some ?_ ?_ | refine aw_condE ?_ ?_ | refine block_o ?_ ?_); (· decide))
      | (with_reducible refine aw_drawB tk0 lv_trammel_trammellaw04_CutStays ?_ ?_; (· kernel_rfl))
      | ((with_reducible first | refine guardG_b (fun hc => ?_) (fun hc => ?_) | refine condV_b (fun hc => ?_) (fun hc => ?_)) <;> (try simp only [decide_eq_true_eq, decide_eq_false_iff_not, Bool.not_true, Bool.not_false, Bool.not_eq_true', Bool.not_eq_false'] at hc) <;> (try (exfalso; omega)))
      | (with_reducible refine and_i ?_ ?_; (· first | omega | assumption | (refine ⟨?_, ?_⟩ <;> (first | omega | assumption | (simp only [List.length_append, List.length_map, List.length_cons, List.length_nil] <;> omega))) | (refine ⟨?_, ?_, ?_⟩ <;> (first | omega | assumption | (simp only [List.length_append, List.length_map, List.length_cons, List.length_nil] <;> omega))) | (simp only [List.length_append, List.length_map, List.length_cons, List.length_nil] <;> omega)))
      | (with_reducible refine ex_callT (upCut_k) ?_)
      | (with_reducible refine ex_callT (hlk) ?_)
      | (with_reducible refine ex_seal ?_)
      | fail)
  rw [hl] at hlk
  have h1 := lines_k ps ss hps hss
  have h1o := lines_o ps ss hps hss
  have hlin := linesN_lin ps ss
  have q4 := linesN_nil ps ss
  obtain ⟨q1, q2, q3⟩ := linesN_e ps ss
  have hpl := hps.len
  unfold Lg at hpl
  have hb := hps.each
  have hsp := same4_k ps hps.len fun l hl => by have := hb l hl; unfold Lg; omega
  have hso := same4_own ps hps.len fun l hl => by have := hb l hl; unfold Lg; omega
  generalize linesN ps ss = q at *
  obtain ⟨e, z, ls⟩ := q
  simp only at q1 q2 q3 q4 hlin
  have hs := same4_k ls (by
    by_cases he : e = 0
    · have := q3 he; unfold Lg; omega
    · rw [q4 he]; unfold Lg; simp) (fun l hl => by have := (linB_ok (hlin l hl)).2.1; unfold Lg; omega)
  clear q1 q2 q3 q4 hlin hl hps hss
  by_cases hne : ps = []
  · subst hne
    have hl0 : ((0 : Int) < 0) = False := eq_false (by omega)
    obtain ⟨ERR, hERR⟩ : ∃ ERR, errA e z = ERR := ⟨_, rfl⟩
    have herr := err_two e z
    have he3 : ∀ g, ren g 3 ERR = ERR := fun g => by
      rw [← hERR]
      rcases herr with h | ⟨T, X, h, h2, _⟩
      · rw [h]; rfl
      · rw [h]; show AV.ifc T (ren g 2 X) = _; rw [h2]
    have heh : ∀ b, hasRef b 5 ERR = false := fun b => by
      rw [← hERR]
      rcases herr with h | ⟨T, X, h, _, h2⟩
      · rw [h]; rfl
      · rw [h]; exact h2 b
    unfold linesR at h1
    simp only at h1
    rw [hERR] at h1 herr
    clear h1o hso
    rw [show lnsA [] = .sl [] 0 .none from rfl] at *
    refine afn_of [] Try.func3 rfl Try.ntmps3 (Nat.le_of_ble_eq_true rfl) (Nat.le_of_ble_eq_true rfl) fun w0 G0 B0 Pr hB0 => ?_
    simp only [start, argMap, List.cons_append, List.nil_append]
    repeat' (first
      | (with_reducible refine hY _ ?_; clear hY Y)
      | ((with_reducible first | refine run_n rfl (runN fun K' hK' => todo ?_) | refine hK' _ (eqTo2 fun Y hY => todo ?_) | refine run_g rfl (eqTo2 fun Y hY => todo ?_) | refine eqTo2 fun Y hY => todo ?_ | refine runN fun K' hK' => todo ?_ | refine aw_regionB tk0 lv_trammel_trammellaw04_CutStays (eqTo2 fun Y hY => todo ?_) | refine todo ?_ | refine qretT_r ?_ | refine draw_n rfl (drawN fun K' hK' => todo ?_) | refine hK' _ _ (eqTo2 fun Y hY => todo ?_) | refine draw_g rfl (eqTo2 fun Y hY => todo ?_) | refine drawN fun K' hK' => todo ?_ | refine qretT_n ?_); (try clear hK' K'); (try dsimp only [aop]); try simp only [go_sem, ↓reduceIte, Nat.reduceEqDiff, Nat.reduceLT, Nat.reduceLeDiff, Nat.reduceAdd, Nat.reduceSub, Nat.reduceMul, Nat.reduceBEq, Nat.reduceBNe, Nat.reducePow, Int.reduceToNat, Int.reduceLE, Int.reduceLT, Int.reduceMul, Int.reduceEq, Int.reducePow, Int.reduceAdd, Int.reduceSub, Int.reduceNeg, reduceCtorEq, lv_trammel_trammellaw04_CutStays, Try.results3])
      | (with_reducible first | refine run_nil ?_ | refine guardG_n rfl ?_ | refine guardG_y ?_ | refine guardG_u ?_ | refine andD ?_ ?_ | refine then_n ?_ | refine aw_seq ?_ | refine regN fun K hK => ?_ | refine condV_t ?_ | refine condV_f ?_ | refine then_e ?_ | refine then_r ?_ | refine block_n ?_ | refine block_r ?_ | refine block_e ?_ | refine aw_block ?_ | refine aw_skip ?_ | refine aw_ret ?_ | refine aw_exit ?_ | refine aw_loop ?_ | refine aw_condc_t ?_ | refine aw_condc_f ?_ | refine draw_nil ?_ | refine regD fun K hK => ?_)
      | (with_reducible refine hK _ ?_; clear hK K)
      | (with_reducible refine hK _ _ ?_ ?_; (· kernel_rfl); clear hK K)
      | ((with_reducible first | refine gO_some ?_ ?_ | refine aw_condE ?_ ?_ | refine block_o ?_ ?_); (· decide))
      | (with_reducible refine aw_drawB tk0 lv_trammel_trammellaw04_CutStays ?_ ?_; (· kernel_rfl))
      | ((with_reducible first | refine guardG_b (fun hc => ?_) (fun hc => ?_) | refine condV_b (fun hc => ?_) (fun hc => ?_)) <;> (try simp only [decide_eq_true_eq, decide_eq_false_iff_not, Bool.not_true, Bool.not_false, Bool.not_eq_true', Bool.not_eq_false'] at hc) <;> (try (exfalso; omega)))
      | (with_reducible refine and_i ?_ ?_; (· first | omega | assumption | (refine ⟨?_, ?_⟩ <;> (first | omega | assumption | (simp only [List.length_append, List.length_map, List.length_cons, List.length_nil] <;> omega))) | (refine ⟨?_, ?_, ?_⟩ <;> (first | omega | assumption | (simp only [List.length_append, List.length_map, List.length_cons, List.length_nil] <;> omega))) | (simp only [List.length_append, List.length_map, List.length_cons, List.length_nil] <;> omega)))
      | (with_reducible refine ex_callT (upCut_k) ?_)
      | (with_reducible refine ex_callT (hlk) ?_)
      | (with_reducible refine ex_seal ?_)
      | fail)
    refine awl_ind (α := Unit) (fun _ => [(0, .sl [] 0 .none), (1, stpsA ss), (5, .c (.bool true)), (7, .sl [] 0 .full), (8, inA 0)]) (fun _ => True) (fun _ => 0) () [0, 1, 5, 7, 8] ?_ trivial ?_
    · simp only [go_sem, ↓reduceIte, Nat.reduceEqDiff, Nat.reduceLT, Nat.reduceLeDiff, Nat.reduceAdd, Nat.reduceSub, Nat.reduceMul, Nat.reduceBEq, Nat.reduceBNe, Nat.reducePow, Int.reduceToNat, Int.reduceLE, Int.reduceLT, Int.reduceMul, Int.reduceEq, Int.reducePow, Int.reduceAdd, Int.reduceSub, Int.reduceNeg, reduceCtorEq] <;> rfl
    intro _ _ ih
    clear ih
    repeat' (first
      | (with_reducible refine hY _ ?_; clear hY Y)
      | ((with_reducible first | refine run_n rfl (runN fun K' hK' => todo ?_) | refine hK' _ (eqTo2 fun Y hY => todo ?_) | refine run_g rfl (eqTo2 fun Y hY => todo ?_) | refine eqTo2 fun Y hY => todo ?_ | refine runN fun K' hK' => todo ?_ | refine aw_regionB tk0 lv_trammel_trammellaw04_CutStays (eqTo2 fun Y hY => todo ?_) | refine todo ?_ | refine qretT_r ?_ | refine draw_n rfl (drawN fun K' hK' => todo ?_) | refine hK' _ _ (eqTo2 fun Y hY => todo ?_) | refine draw_g rfl (eqTo2 fun Y hY => todo ?_) | refine drawN fun K' hK' => todo ?_ | refine qretT_n ?_); (try clear hK' K'); (try dsimp only [aop]); try simp only [go_sem, ↓reduceIte, Nat.reduceEqDiff, Nat.reduceLT, Nat.reduceLeDiff, Nat.reduceAdd, Nat.reduceSub, Nat.reduceMul, Nat.reduceBEq, Nat.reduceBNe, Nat.reducePow, Int.reduceToNat, Int.reduceLE, Int.reduceLT, Int.reduceMul, Int.reduceEq, Int.reducePow, Int.reduceAdd, Int.reduceSub, Int.reduceNeg, reduceCtorEq, lv_trammel_trammellaw04_CutStays, Try.results3, he3, heh])
      | (with_reducible first | refine run_nil ?_ | refine guardG_n rfl ?_ | refine guardG_y ?_ | refine guardG_u ?_ | refine andD ?_ ?_ | refine then_n ?_ | refine aw_seq ?_ | refine regN fun K hK => ?_ | refine condV_t ?_ | refine condV_f ?_ | refine then_e ?_ | refine then_r ?_ | refine block_n ?_ | refine block_r ?_ | refine block_e ?_ | refine aw_block ?_ | refine aw_skip ?_ | refine aw_ret ?_ | refine aw_exit ?_ | refine aw_loop ?_ | refine aw_condc_t ?_ | refine aw_condc_f ?_ | refine draw_nil ?_ | refine regD fun K hK => ?_)
      | (with_reducible refine hK _ ?_; clear hK K)
      | (with_reducible refine hK _ _ ?_ ?_; (· kernel_rfl); clear hK K)
      | ((with_reducible first | refine gO_some ?_ ?_ | refine aw_condE ?_ ?_ | refine block_o ?_ ?_); (· decide))
      | (with_reducible refine aw_drawB tk0 lv_trammel_trammellaw04_CutStays ?_ ?_; (· kernel_rfl))
      | ((with_reducible first | refine guardG_b (fun hc => ?_) (fun hc => ?_) | refine condV_b (fun hc => ?_) (fun hc => ?_)) <;> (try simp only [decide_eq_true_eq, decide_eq_false_iff_not, Bool.not_true, Bool.not_false, Bool.not_eq_true', Bool.not_eq_false'] at hc) <;> (try (exfalso; omega)))
      | (with_reducible refine and_i ?_ ?_; (· first | omega | assumption | (refine ⟨?_, ?_⟩ <;> (first | omega | assumption | (simp only [List.length_append, List.length_map, List.length_cons, List.length_nil] <;> omega))) | (refine ⟨?_, ?_, ?_⟩ <;> (first | omega | assumption | (simp only [List.length_append, List.length_map, List.length_cons, List.length_nil] <;> omega))) | (simp only [List.length_append, List.length_map, List.length_cons, List.length_nil] <;> omega)))
      | (with_reducible refine ex_callT (h1) ?_)
      | (with_reducible refine ex_callT (afn_args 1 h1 ?_) ?_; (· simp [wkD, stpsA, map_wk0]))
      | (with_reducible refine ex_callT (afn_args 1 hsp ?_) ?_; (· simp [wkD, map_wk0]))
      | (with_reducible refine ex_seal ?_)
      | fail)
    refine awl_ind (α := Unit) (fun _ => [(0, .sl [] 0 .none), (1, stpsA ss), (5, .c (.bool true)), (7, .sl [] 0 .full), (9, lnsA ls), (10, ERR), (11, .c (.bool true)), (12, inA 0)]) (fun _ => True) (fun _ => 0) () [0, 1, 5, 7, 9, 10, 11, 12] ?_ trivial ?_
    · simp only [go_sem, ↓reduceIte, Nat.reduceEqDiff, Nat.reduceLT, Nat.reduceLeDiff, Nat.reduceAdd, Nat.reduceSub, Nat.reduceMul, Nat.reduceBEq, Nat.reduceBNe, Nat.reducePow, Int.reduceToNat, Int.reduceLE, Int.reduceLT, Int.reduceMul, Int.reduceEq, Int.reducePow, Int.reduceAdd, Int.reduceSub, Int.reduceNeg, reduceCtorEq, heh] <;> rfl
    intro _ _ ih
    clear ih
    rcases herr with rfl | ⟨T, X, rfl, hX1, hX2⟩
    · repeat' (first
        | (with_reducible refine hY _ ?_; clear hY Y)
        | ((with_reducible first | refine run_n rfl (runN fun K' hK' => todo ?_) | refine hK' _ (eqTo2 fun Y hY => todo ?_) | refine run_g rfl (eqTo2 fun Y hY => todo ?_) | refine eqTo2 fun Y hY => todo ?_ | refine runN fun K' hK' => todo ?_ | refine aw_regionB tk0 lv_trammel_trammellaw04_CutStays (eqTo2 fun Y hY => todo ?_) | refine todo ?_ | refine qretT_r ?_ | refine draw_n rfl (drawN fun K' hK' => todo ?_) | refine hK' _ _ (eqTo2 fun Y hY => todo ?_) | refine draw_g rfl (eqTo2 fun Y hY => todo ?_) | refine drawN fun K' hK' => todo ?_ | refine qretT_n ?_); (try clear hK' K'); (try dsimp only [aop]); try simp only [go_sem, ↓reduceIte, Nat.reduceEqDiff, Nat.reduceLT, Nat.reduceLeDiff, Nat.reduceAdd, Nat.reduceSub, Nat.reduceMul, Nat.reduceBEq, Nat.reduceBNe, Nat.reducePow, Int.reduceToNat, Int.reduceLE, Int.reduceLT, Int.reduceMul, Int.reduceEq, Int.reducePow, Int.reduceAdd, Int.reduceSub, Int.reduceNeg, reduceCtorEq, lv_trammel_trammellaw04_CutStays, Try.results3, he3, heh])
        | (with_reducible first | refine run_nil ?_ | refine guardG_n rfl ?_ | refine guardG_y ?_ | refine guardG_u ?_ | refine andD ?_ ?_ | refine then_n ?_ | refine aw_seq ?_ | refine regN fun K hK => ?_ | refine condV_t ?_ | refine condV_f ?_ | refine then_e ?_ | refine then_r ?_ | refine block_n ?_ | refine block_r ?_ | refine block_e ?_ | refine aw_block ?_ | refine aw_skip ?_ | refine aw_ret ?_ | refine aw_exit ?_ | refine aw_loop ?_ | refine aw_condc_t ?_ | refine aw_condc_f ?_ | refine draw_nil ?_ | refine regD fun K hK => ?_)
        | (with_reducible refine hK _ ?_; clear hK K)
        | (with_reducible refine hK _ _ ?_ ?_; (· kernel_rfl); clear hK K)
        | ((with_reducible first | refine gO_some ?_ ?_ | refine aw_condE ?_ ?_ | refine block_o ?_ ?_); (· decide))
        | (with_reducible refine aw_drawB tk0 lv_trammel_trammellaw04_CutStays ?_ ?_; (· kernel_rfl))
        | ((with_reducible first | refine guardG_b (fun hc => ?_) (fun hc => ?_) | refine condV_b (fun hc => ?_) (fun hc => ?_)) <;> (try simp only [decide_eq_true_eq, decide_eq_false_iff_not, Bool.not_true, Bool.not_false, Bool.not_eq_true', Bool.not_eq_false'] at hc) <;> (try (exfalso; omega)))
        | (with_reducible refine and_i ?_ ?_; (· first | omega | assumption | (refine ⟨?_, ?_⟩ <;> (first | omega | assumption | (simp only [List.length_append, List.length_map, List.length_cons, List.length_nil] <;> omega))) | (refine ⟨?_, ?_, ?_⟩ <;> (first | omega | assumption | (simp only [List.length_append, List.length_map, List.length_cons, List.length_nil] <;> omega))) | (simp only [List.length_append, List.length_map, List.length_cons, List.length_nil] <;> omega)))
        | (with_reducible refine ex_callT (h1) ?_)
        | (with_reducible refine ex_callT (hs) ?_)
        | (with_reducible refine ex_okT (eql_nil) ?_)
        | (with_reducible refine ex_okT (eql_bb _ _) ?_)
        | (with_reducible refine ex_okT (eql_pure _) ?_)
        | (with_reducible refine ex_seal ?_)
        | fail)
    · repeat' (first
        | (with_reducible refine hY _ ?_; clear hY Y)
        | ((with_reducible first | refine run_n rfl (runN fun K' hK' => todo ?_) | refine hK' _ (eqTo2 fun Y hY => todo ?_) | refine run_g rfl (eqTo2 fun Y hY => todo ?_) | refine eqTo2 fun Y hY => todo ?_ | refine runN fun K' hK' => todo ?_ | refine aw_regionB tk0 lv_trammel_trammellaw04_CutStays (eqTo2 fun Y hY => todo ?_) | refine todo ?_ | refine qretT_r ?_ | refine draw_n rfl (drawN fun K' hK' => todo ?_) | refine hK' _ _ (eqTo2 fun Y hY => todo ?_) | refine draw_g rfl (eqTo2 fun Y hY => todo ?_) | refine drawN fun K' hK' => todo ?_ | refine qretT_n ?_); (try clear hK' K'); (try dsimp only [aop]); try simp only [go_sem, ↓reduceIte, Nat.reduceEqDiff, Nat.reduceLT, Nat.reduceLeDiff, Nat.reduceAdd, Nat.reduceSub, Nat.reduceMul, Nat.reduceBEq, Nat.reduceBNe, Nat.reducePow, Int.reduceToNat, Int.reduceLE, Int.reduceLT, Int.reduceMul, Int.reduceEq, Int.reducePow, Int.reduceAdd, Int.reduceSub, Int.reduceNeg, reduceCtorEq, lv_trammel_trammellaw04_CutStays, Try.results3, he3, heh, hX1, hX2])
        | (with_reducible first | refine run_nil ?_ | refine guardG_n rfl ?_ | refine guardG_y ?_ | refine guardG_u ?_ | refine andD ?_ ?_ | refine then_n ?_ | refine aw_seq ?_ | refine regN fun K hK => ?_ | refine condV_t ?_ | refine condV_f ?_ | refine then_e ?_ | refine then_r ?_ | refine block_n ?_ | refine block_r ?_ | refine block_e ?_ | refine aw_block ?_ | refine aw_skip ?_ | refine aw_ret ?_ | refine aw_exit ?_ | refine aw_loop ?_ | refine aw_condc_t ?_ | refine aw_condc_f ?_ | refine draw_nil ?_ | refine regD fun K hK => ?_)
        | (with_reducible refine hK _ ?_; clear hK K)
        | (with_reducible refine hK _ _ ?_ ?_; (· kernel_rfl); clear hK K)
        | ((with_reducible first | refine gO_some ?_ ?_ | refine aw_condE ?_ ?_ | refine block_o ?_ ?_); (· decide))
        | (with_reducible refine aw_drawB tk0 lv_trammel_trammellaw04_CutStays ?_ ?_; (· kernel_rfl))
        | ((with_reducible first | refine guardG_b (fun hc => ?_) (fun hc => ?_) | refine condV_b (fun hc => ?_) (fun hc => ?_)) <;> (try simp only [decide_eq_true_eq, decide_eq_false_iff_not, Bool.not_true, Bool.not_false, Bool.not_eq_true', Bool.not_eq_false'] at hc) <;> (try (exfalso; omega)))
        | (with_reducible refine and_i ?_ ?_; (· first | omega | assumption | (refine ⟨?_, ?_⟩ <;> (first | omega | assumption | (simp only [List.length_append, List.length_map, List.length_cons, List.length_nil] <;> omega))) | (refine ⟨?_, ?_, ?_⟩ <;> (first | omega | assumption | (simp only [List.length_append, List.length_map, List.length_cons, List.length_nil] <;> omega))) | (simp only [List.length_append, List.length_map, List.length_cons, List.length_nil] <;> omega)))
        | (with_reducible refine ex_callT (h1) ?_)
        | (with_reducible refine ex_callT (hs) ?_)
        | (with_reducible refine ex_okT (eql_nil) ?_)
        | (with_reducible refine ex_okT (eql_bb _ _) ?_)
        | (with_reducible refine ex_okT (eql_pure _) ?_)
        | (with_reducible refine ex_seal ?_)
        | fail)
  refine afn_of [] Try.func3 rfl Try.ntmps3 (Nat.le_of_ble_eq_true rfl) (Nat.le_of_ble_eq_true rfl) fun w0 G0 B0 Pr hB0 => ?_
  simp only [start, argMap, List.cons_append, List.nil_append]
  repeat' (first
    | (with_reducible refine hY _ ?_; clear hY Y)
    | ((with_reducible first | refine run_n rfl (runN fun K' hK' => todo ?_) | refine hK' _ (eqTo2 fun Y hY => todo ?_) | refine run_g rfl (eqTo2 fun Y hY => todo ?_) | refine eqTo2 fun Y hY => todo ?_ | refine runN fun K' hK' => todo ?_ | refine aw_regionB tk0 lv_trammel_trammellaw04_CutStays (eqTo2 fun Y hY => todo ?_) | refine todo ?_ | refine qretT_r ?_ | refine draw_n rfl (drawN fun K' hK' => todo ?_) | refine hK' _ _ (eqTo2 fun Y hY => todo ?_) | refine draw_g rfl (eqTo2 fun Y hY => todo ?_) | refine drawN fun K' hK' => todo ?_ | refine qretT_n ?_); (try clear hK' K'); (try dsimp only [aop]); try simp only [go_sem, ↓reduceIte, Nat.reduceEqDiff, Nat.reduceLT, Nat.reduceLeDiff, Nat.reduceAdd, Nat.reduceSub, Nat.reduceMul, Nat.reduceBEq, Nat.reduceBNe, Nat.reducePow, Int.reduceToNat, Int.reduceLE, Int.reduceLT, Int.reduceMul, Int.reduceEq, Int.reducePow, Int.reduceAdd, Int.reduceSub, Int.reduceNeg, reduceCtorEq, lv_trammel_trammellaw04_CutStays, Try.results3])
    | (with_reducible first | refine run_nil ?_ | refine guardG_n rfl ?_ | refine guardG_y ?_ | refine guardG_u ?_ | refine andD ?_ ?_ | refine then_n ?_ | refine aw_seq ?_ | refine regN fun K hK => ?_ | refine condV_t ?_ | refine condV_f ?_ | refine then_e ?_ | refine then_r ?_ | refine block_n ?_ | refine block_r ?_ | refine block_e ?_ | refine aw_block ?_ | refine aw_skip ?_ | refine aw_ret ?_ | refine aw_exit ?_ | refine aw_loop ?_ | refine aw_condc_t ?_ | refine aw_condc_f ?_ | refine draw_nil ?_ | refine regD fun K hK => ?_)
    | (with_reducible refine hK _ ?_; clear hK K)
    | (with_reducible refine hK _ _ ?_ ?_; (· kernel_rfl); clear hK K)
    | ((with_reducible first | refine gO_some ?_ ?_ | refine aw_condE ?_ ?_ | refine block_o ?_ ?_); (· decide))
    | (with_reducible refine aw_drawB tk0 lv_trammel_trammellaw04_CutStays ?_ ?_; (· kernel_rfl))
    | ((with_reducible first | refine guardG_b (fun hc => ?_) (fun hc => ?_) | refine condV_b (fun hc => ?_) (fun hc => ?_)) <;> (try simp only [decide_eq_true_eq, decide_eq_false_iff_not, Bool.not_true, Bool.not_false, Bool.not_eq_true', Bool.not_eq_false'] at hc) <;> (try (exfalso; omega)))
    | (with_reducible refine and_i ?_ ?_; (· first | omega | assumption | (refine ⟨?_, ?_⟩ <;> (first | omega | assumption | (simp only [List.length_append, List.length_map, List.length_cons, List.length_nil] <;> omega))) | (refine ⟨?_, ?_, ?_⟩ <;> (first | omega | assumption | (simp only [List.length_append, List.length_map, List.length_cons, List.length_nil] <;> omega))) | (simp only [List.length_append, List.length_map, List.length_cons, List.length_nil] <;> omega)))
    | (with_reducible refine ex_callT (upCut_k) ?_)
    | (with_reducible refine ex_callT (hlk) ?_)
    | (with_reducible refine ex_seal ?_)
    | fail)
  refine awl_le (ale_ow (b := 10044) (t := 7) 28 2 (by decide) (by decide) rfl rfl) ?_
  refine awl_le (ale_fo (b := 10041) (by decide) rfl) ?_
  refine awl_ind (α := Nat) (fun i => [(0, lnsA ps), (1, stpsA ss), (5, .c (.bool true)), (7, .ow 10044 0 i i), (8, inA (i : Int)), (10041, foA (ps.take i)), (10044, .br (ownC 10041 0 (ps.take i)) i 28 2)])
    (fun i => i ≤ ps.length) (fun i => ps.length - i) 0 [0, 1, 5, 7, 8] ?_ (Nat.zero_le _) ?_
  · simp only [go_sem, ↓reduceIte, Nat.reduceEqDiff, Nat.reduceLT, Nat.reduceLeDiff, Nat.reduceAdd, Nat.reduceSub, Nat.reduceMul, Nat.reduceBEq, Nat.reduceBNe, Nat.reducePow, Int.reduceToNat, Int.reduceLE, Int.reduceLT, Int.reduceMul, Int.reduceEq, Int.reducePow, Int.reduceAdd, Int.reduceSub, Int.reduceNeg, reduceCtorEq] <;> rfl
  intro i hi ih
  by_cases hlt : i < ps.length
  · have hlt' : ((i : Int) < (ps.length : Int)) = True := eq_true (by omega)
    have hkw := wrap_1 (n := i) (by omega)
    have hap1 : ((i + 1) * 32 ≤ 140737488355328) = True := eq_true (by omega)
    have hap2 : (i ≤ 140737488355327) = True := eq_true (by omega)
    have hg0 := lns_get0 hlt
    have hg1 := lns_get1 hlt
    have hfl := lns_len ps
    have hbt := hb _ (List.getElem_mem hlt)
    have htl : (ps.take i).length = i := by rw [List.length_take]; omega
    have hFl : (famA (ps.take i)).length = i := by rw [famA_len, htl]
    have hOl : (ownC 10041 0 (ps.take i)).length = i * 2 := by rw [ownC_len, htl]
    have hOr : ∀ b, b < 1000000 → (ownC 10041 0 (ps.take i)).any (hasRef b 4) = false := fun b hb => ownC_ref4 hb 10041 0 _
    have hfr : ∀ b, hasRef b 5 (.fo (famA (ps.take i))) = false := fun b => foA_ref5 b (ps.take i)
    simp only [hasRef] at hfr
    have hcl := cellsM_len ps[i].t
    have hen : ∀ i b, b < 1000000 → (enc 10041 i == b) = false := fun i b hb => enc_ne i hb
    have ih' := ih (i + 1) (by omega) (by omega)
    rw [List.take_succ_eq_append_getElem hlt, ownC_app, htl, Nat.zero_add] at ih'
    have hfo1 : foA (ps.take i ++ [ps[i]]) = .fo (famA (ps.take i) ++ [.br (cellsM ps[i].t) ps[i].t.length 35 2]) := by unfold foA; rw [famA_app]
    rw [hfo1] at ih'
    have hfo : foA (ps.take i) = .fo (famA (ps.take i)) := rfl
    clear ih hfo1 h1 h1o hs hsp hso hb hlk
    generalize ps[i] = l at *
    generalize famA (ps.take i) = FR at *
    generalize ownC 10041 0 (ps.take i) = OC at *
    generalize foA (ps.take i) = FX at *
    obtain ⟨c, t⟩ := l
    simp only at hg0 hg1 hbt hcl ih'
    have hbb : t.length * 16 ≤ 140737488355328 := by omega
    subst hfo
    repeat' (first
      | (with_reducible refine hY _ ?_; clear hY Y)
      | ((with_reducible first | refine run_n rfl (runN fun K' hK' => todo ?_) | refine hK' _ (eqTo2 fun Y hY => todo ?_) | refine run_g rfl (eqTo2 fun Y hY => todo ?_) | refine eqTo2 fun Y hY => todo ?_ | refine runN fun K' hK' => todo ?_ | refine aw_regionB tk0 lv_trammel_trammellaw04_CutStays (eqTo2 fun Y hY => todo ?_) | refine todo ?_ | refine qretT_r ?_ | refine draw_n rfl (drawN fun K' hK' => todo ?_) | refine hK' _ _ (eqTo2 fun Y hY => todo ?_) | refine draw_g rfl (eqTo2 fun Y hY => todo ?_) | refine drawN fun K' hK' => todo ?_ | refine qretT_n ?_); (try clear hK' K'); (try dsimp only [aop]); try simp only [go_sem, ↓reduceIte, Nat.reduceEqDiff, Nat.reduceLT, Nat.reduceLeDiff, Nat.reduceAdd, Nat.reduceSub, Nat.reduceMul, Nat.reduceBEq, Nat.reduceBNe, Nat.reducePow, Int.reduceToNat, Int.reduceLE, Int.reduceLT, Int.reduceMul, Int.reduceEq, Int.reducePow, Int.reduceAdd, Int.reduceSub, Int.reduceNeg, reduceCtorEq, lv_trammel_trammellaw04_CutStays, Try.results3, hlt', hkw, hap1, hap2, hg0, hg1, hfl, hFl, hOl, hOr, hfr, hcl, hen])
      | (with_reducible first | refine run_nil ?_ | refine guardG_n rfl ?_ | refine guardG_y ?_ | refine guardG_u ?_ | refine andD ?_ ?_ | refine then_n ?_ | refine aw_seq ?_ | refine regN fun K hK => ?_ | refine condV_t ?_ | refine condV_f ?_ | refine then_e ?_ | refine then_r ?_ | refine block_n ?_ | refine block_r ?_ | refine block_e ?_ | refine aw_block ?_ | refine aw_skip ?_ | refine aw_ret ?_ | refine aw_exit ?_ | refine aw_loop ?_ | refine aw_condc_t ?_ | refine aw_condc_f ?_ | refine draw_nil ?_ | refine regD fun K hK => ?_)
      | (with_reducible refine hK _ ?_; clear hK K)
      | (with_reducible refine hK _ _ ?_ ?_; (· kernel_rfl); clear hK K)
      | ((with_reducible first | refine gO_some ?_ ?_ | refine aw_condE ?_ ?_ | refine block_o ?_ ?_); (· decide))
      | (with_reducible refine aw_drawB tk0 lv_trammel_trammellaw04_CutStays ?_ ?_; (· kernel_rfl))
      | ((with_reducible first | refine guardG_b (fun hc => ?_) (fun hc => ?_) | refine condV_b (fun hc => ?_) (fun hc => ?_)) <;> (try simp only [decide_eq_true_eq, decide_eq_false_iff_not, Bool.not_true, Bool.not_false, Bool.not_eq_true', Bool.not_eq_false'] at hc) <;> (try (exfalso; omega)))
      | (with_reducible refine and_i ?_ ?_; (· first | omega | assumption | (refine ⟨?_, ?_⟩ <;> (first | omega | assumption | (simp only [List.length_append, List.length_map, List.length_cons, List.length_nil] <;> omega))) | (refine ⟨?_, ?_, ?_⟩ <;> (first | omega | assumption | (simp only [List.length_append, List.length_map, List.length_cons, List.length_nil] <;> omega))) | (simp only [List.length_append, List.length_map, List.length_cons, List.length_nil] <;> omega)))
      | (with_reducible refine ex_mut ?_)
      | (with_reducible refine ex_seal ?_)
      | fail)
    refine awl_keep [0, 1, 5, 7, 8] (by simp only [go_sem, ↓reduceIte, Nat.reduceEqDiff, Nat.reduceLT, Nat.reduceLeDiff, Nat.reduceAdd, Nat.reduceSub, Nat.reduceMul, Nat.reduceBEq, Nat.reduceBNe, Nat.reducePow, Int.reduceToNat, Int.reduceLE, Int.reduceLT, Int.reduceMul, Int.reduceEq, Int.reducePow, Int.reduceAdd, Int.reduceSub, Int.reduceNeg, reduceCtorEq, hOr, hfr]; exact rfl) ?_
    refine awl_eq ih' ?_
    simp
  have hlt' : ((i : Int) < (ps.length : Int)) = False := eq_false (by omega)
  obtain rfl : i = ps.length := by omega
  clear ih
  rw [List.take_of_length_le (Nat.le_refl _)]
  have hpos : ∃ n, ps.length = n + 1 := by
    cases ps with
    | nil => exact absurd rfl hne
    | cons p r => exact ⟨r.length, rfl⟩
  obtain ⟨pn, hpn⟩ := hpos
  have hn1 : addN [10044] ((ownC 10041 0 ps).flatMap (names true 3)) = [10044, 10041] := by
    rw [ownC_nm (by decide) true 2 0 ps, hpn, List.replicate_succ]
    show addN ([10044] ++ [10041]) _ = _
    exact addN_rep rfl pn
  have hn2 : addN [10044, 10041] ((ownC 10041 0 ps).flatMap (names true 3)) = [10044, 10041] := by
    rw [ownC_nm (by decide) true 2 0 ps]
    exact addN_rep rfl _
  have hx1 : ∀ g, renBox g (foA ps) = foA ps := fun g => foA_ren g ps
  have hx2 : isBox (foA ps) = true := rfl
  simp only [renBox] at hx1
  unfold isBox at hx2
  have hx4 : isFo (foA ps) = true := rfl
  unfold isFo at hx4
  have hr1 : (ownC 10041 0 ps).map (ren [(10044, 20000), (10041, 20001)] 4) = ownC 20001 0 ps := ownC_ren (by decide) rfl 3 0 ps
  have hr2 : (ownC 20001 0 ps).map (ren [(20000, 10044), (20001, 10041)] 4) = ownC 10041 0 ps := ownC_ren (by decide) rfl 3 0 ps
  obtain ⟨ERR, hERR⟩ : ∃ ERR, errA e z = ERR := ⟨_, rfl⟩
  have herr := err_two e z
  have he3 : ∀ g, ren g 3 ERR = ERR := fun g => by
    rw [← hERR]
    rcases herr with h | ⟨T, X, h, h2, _⟩
    · rw [h]; rfl
    · rw [h]; show AV.ifc T (ren g 2 X) = _; rw [h2]
  have heh : ∀ b, hasRef b 5 ERR = false := fun b => by
    rw [← hERR]
    rcases herr with h | ⟨T, X, h, _, h2⟩
    · rw [h]; rfl
    · rw [h]; exact h2 b
  unfold linesR at h1 h1o
  simp only at h1 h1o
  rw [hERR] at h1 h1o herr
  repeat' (first
    | (with_reducible refine hY _ ?_; clear hY Y)
    | ((with_reducible first | refine run_n rfl (runN fun K' hK' => todo ?_) | refine hK' _ (eqTo2 fun Y hY => todo ?_) | refine run_g rfl (eqTo2 fun Y hY => todo ?_) | refine eqTo2 fun Y hY => todo ?_ | refine runN fun K' hK' => todo ?_ | refine aw_regionB tk0 lv_trammel_trammellaw04_CutStays (eqTo2 fun Y hY => todo ?_) | refine todo ?_ | refine qretT_r ?_ | refine draw_n rfl (drawN fun K' hK' => todo ?_) | refine hK' _ _ (eqTo2 fun Y hY => todo ?_) | refine draw_g rfl (eqTo2 fun Y hY => todo ?_) | refine drawN fun K' hK' => todo ?_ | refine qretT_n ?_); (try clear hK' K'); (try dsimp only [aop]); try simp only [go_sem, ↓reduceIte, Nat.reduceEqDiff, Nat.reduceLT, Nat.reduceLeDiff, Nat.reduceAdd, Nat.reduceSub, Nat.reduceMul, Nat.reduceBEq, Nat.reduceBNe, Nat.reducePow, Int.reduceToNat, Int.reduceLE, Int.reduceLT, Int.reduceMul, Int.reduceEq, Int.reducePow, Int.reduceAdd, Int.reduceSub, Int.reduceNeg, reduceCtorEq, lv_trammel_trammellaw04_CutStays, Try.results3, hlt', hn1, hn2, hr1, hr2, he3, heh, hx1, hx2, hx4])
    | (with_reducible first | refine run_nil ?_ | refine guardG_n rfl ?_ | refine guardG_y ?_ | refine guardG_u ?_ | refine andD ?_ ?_ | refine then_n ?_ | refine aw_seq ?_ | refine regN fun K hK => ?_ | refine condV_t ?_ | refine condV_f ?_ | refine then_e ?_ | refine then_r ?_ | refine block_n ?_ | refine block_r ?_ | refine block_e ?_ | refine aw_block ?_ | refine aw_skip ?_ | refine aw_ret ?_ | refine aw_exit ?_ | refine aw_loop ?_ | refine aw_condc_t ?_ | refine aw_condc_f ?_ | refine draw_nil ?_ | refine regD fun K hK => ?_)
    | (with_reducible refine hK _ ?_; clear hK K)
    | (with_reducible refine hK _ _ ?_ ?_; (· kernel_rfl); clear hK K)
    | ((with_reducible first | refine gO_some ?_ ?_ | refine aw_condE ?_ ?_ | refine block_o ?_ ?_); (· decide))
    | (with_reducible refine aw_drawB tk0 lv_trammel_trammellaw04_CutStays ?_ ?_; (· kernel_rfl))
    | ((with_reducible first | refine guardG_b (fun hc => ?_) (fun hc => ?_) | refine condV_b (fun hc => ?_) (fun hc => ?_)) <;> (try simp only [decide_eq_true_eq, decide_eq_false_iff_not, Bool.not_true, Bool.not_false, Bool.not_eq_true', Bool.not_eq_false'] at hc) <;> (try (exfalso; omega)))
    | (with_reducible refine and_i ?_ ?_; (· first | omega | assumption | (refine ⟨?_, ?_⟩ <;> (first | omega | assumption | (simp only [List.length_append, List.length_map, List.length_cons, List.length_nil] <;> omega))) | (refine ⟨?_, ?_, ?_⟩ <;> (first | omega | assumption | (simp only [List.length_append, List.length_map, List.length_cons, List.length_nil] <;> omega))) | (simp only [List.length_append, List.length_map, List.length_cons, List.length_nil] <;> omega)))
    | (with_reducible refine ex_callT (h1o) ?_)
    | (with_reducible refine ex_callT (hso) ?_)
    | (with_reducible refine ex_seal ?_)
    | fail)
  refine awl_ind (α := Nat × List Ln) (fun a => [(0, lnsA ps), (1, stpsA ss), (5, .c (.bool true)), (7, .ow 10044 0 ps.length ps.length), (9, lnsA ls), (10, ERR), (11, .c (.bool true)), (12, inA (a.1 : Int)), (10041, foA a.2), (10044, .br (ownC 10041 0 a.2) ps.length 28 2)])
    (fun a => a.1 ≤ ps.length ∧ a.2.length = ps.length ∧ ∀ l ∈ a.2, l.t.length ≤ 8796093022207) (fun a => ps.length - a.1) (0, ps) [0, 1, 5, 7, 9, 10, 11, 12] ?_ ⟨Nat.zero_le _, rfl, hb⟩ ?_
  · simp only [go_sem, ↓reduceIte, Nat.reduceEqDiff, Nat.reduceLT, Nat.reduceLeDiff, Nat.reduceAdd, Nat.reduceSub, Nat.reduceMul, Nat.reduceBEq, Nat.reduceBNe, Nat.reducePow, Int.reduceToNat, Int.reduceLE, Int.reduceLT, Int.reduceMul, Int.reduceEq, Int.reducePow, Int.reduceAdd, Int.reduceSub, Int.reduceNeg, reduceCtorEq, heh] <;> rfl
  clear hn1 hn2 hr1 hr2 hb hso h1o hsp
  rintro ⟨i, qs⟩ ⟨hi, hql, hqb⟩ ih
  simp only at hi hql hqb ih ⊢
  by_cases hlt : i < ps.length
  case neg =>
    have hlt2 : ((i : Int) < (ps.length : Int)) = False := eq_false (by omega)
    clear ih
    have hx5 : isFo (foA qs) = true := rfl
    unfold isFo at hx5
    rcases herr with rfl | ⟨T, X, rfl, hX1, hX2⟩
    · repeat' (first
        | (with_reducible refine hY _ ?_; clear hY Y)
        | ((with_reducible first | refine run_n rfl (runN fun K' hK' => todo ?_) | refine hK' _ (eqTo2 fun Y hY => todo ?_) | refine run_g rfl (eqTo2 fun Y hY => todo ?_) | refine eqTo2 fun Y hY => todo ?_ | refine runN fun K' hK' => todo ?_ | refine aw_regionB tk0 lv_trammel_trammellaw04_CutStays (eqTo2 fun Y hY => todo ?_) | refine todo ?_ | refine qretT_r ?_ | refine draw_n rfl (drawN fun K' hK' => todo ?_) | refine hK' _ _ (eqTo2 fun Y hY => todo ?_) | refine draw_g rfl (eqTo2 fun Y hY => todo ?_) | refine drawN fun K' hK' => todo ?_ | refine qretT_n ?_); (try clear hK' K'); (try dsimp only [aop]); try simp only [go_sem, ↓reduceIte, Nat.reduceEqDiff, Nat.reduceLT, Nat.reduceLeDiff, Nat.reduceAdd, Nat.reduceSub, Nat.reduceMul, Nat.reduceBEq, Nat.reduceBNe, Nat.reducePow, Int.reduceToNat, Int.reduceLE, Int.reduceLT, Int.reduceMul, Int.reduceEq, Int.reducePow, Int.reduceAdd, Int.reduceSub, Int.reduceNeg, reduceCtorEq, lv_trammel_trammellaw04_CutStays, Try.results3, hlt2, he3, heh, hx5])
        | (with_reducible first | refine run_nil ?_ | refine guardG_n rfl ?_ | refine guardG_y ?_ | refine guardG_u ?_ | refine andD ?_ ?_ | refine then_n ?_ | refine aw_seq ?_ | refine regN fun K hK => ?_ | refine condV_t ?_ | refine condV_f ?_ | refine then_e ?_ | refine then_r ?_ | refine block_n ?_ | refine block_r ?_ | refine block_e ?_ | refine aw_block ?_ | refine aw_skip ?_ | refine aw_ret ?_ | refine aw_exit ?_ | refine aw_loop ?_ | refine aw_condc_t ?_ | refine aw_condc_f ?_ | refine draw_nil ?_ | refine regD fun K hK => ?_)
        | (with_reducible refine hK _ ?_; clear hK K)
        | (with_reducible refine hK _ _ ?_ ?_; (· kernel_rfl); clear hK K)
        | ((with_reducible first | refine gO_some ?_ ?_ | refine aw_condE ?_ ?_ | refine block_o ?_ ?_); (· decide))
        | (with_reducible refine aw_drawB tk0 lv_trammel_trammellaw04_CutStays ?_ ?_; (· kernel_rfl))
        | ((with_reducible first | refine guardG_b (fun hc => ?_) (fun hc => ?_) | refine condV_b (fun hc => ?_) (fun hc => ?_)) <;> (try simp only [decide_eq_true_eq, decide_eq_false_iff_not, Bool.not_true, Bool.not_false, Bool.not_eq_true', Bool.not_eq_false'] at hc) <;> (try (exfalso; omega)))
        | (with_reducible refine and_i ?_ ?_; (· first | omega | assumption | (refine ⟨?_, ?_⟩ <;> (first | omega | assumption | (simp only [List.length_append, List.length_map, List.length_cons, List.length_nil] <;> omega))) | (refine ⟨?_, ?_, ?_⟩ <;> (first | omega | assumption | (simp only [List.length_append, List.length_map, List.length_cons, List.length_nil] <;> omega))) | (simp only [List.length_append, List.length_map, List.length_cons, List.length_nil] <;> omega)))
        | (with_reducible refine ex_callT (h1) ?_)
        | (with_reducible refine ex_callT (hs) ?_)
        | (with_reducible refine ex_okT (eql_nil) ?_)
        | (with_reducible refine ex_okT (eql_bb _ _) ?_)
        | (with_reducible refine ex_okT (eql_pure _) ?_)
        | (with_reducible refine ex_seal ?_)
        | fail)
    · repeat' (first
        | (with_reducible refine hY _ ?_; clear hY Y)
        | ((with_reducible first | refine run_n rfl (runN fun K' hK' => todo ?_) | refine hK' _ (eqTo2 fun Y hY => todo ?_) | refine run_g rfl (eqTo2 fun Y hY => todo ?_) | refine eqTo2 fun Y hY => todo ?_ | refine runN fun K' hK' => todo ?_ | refine aw_regionB tk0 lv_trammel_trammellaw04_CutStays (eqTo2 fun Y hY => todo ?_) | refine todo ?_ | refine qretT_r ?_ | refine draw_n rfl (drawN fun K' hK' => todo ?_) | refine hK' _ _ (eqTo2 fun Y hY => todo ?_) | refine draw_g rfl (eqTo2 fun Y hY => todo ?_) | refine drawN fun K' hK' => todo ?_ | refine qretT_n ?_); (try clear hK' K'); (try dsimp only [aop]); try simp only [go_sem, ↓reduceIte, Nat.reduceEqDiff, Nat.reduceLT, Nat.reduceLeDiff, Nat.reduceAdd, Nat.reduceSub, Nat.reduceMul, Nat.reduceBEq, Nat.reduceBNe, Nat.reducePow, Int.reduceToNat, Int.reduceLE, Int.reduceLT, Int.reduceMul, Int.reduceEq, Int.reducePow, Int.reduceAdd, Int.reduceSub, Int.reduceNeg, reduceCtorEq, lv_trammel_trammellaw04_CutStays, Try.results3, hlt2, he3, heh, hx5, hX1, hX2])
        | (with_reducible first | refine run_nil ?_ | refine guardG_n rfl ?_ | refine guardG_y ?_ | refine guardG_u ?_ | refine andD ?_ ?_ | refine then_n ?_ | refine aw_seq ?_ | refine regN fun K hK => ?_ | refine condV_t ?_ | refine condV_f ?_ | refine then_e ?_ | refine then_r ?_ | refine block_n ?_ | refine block_r ?_ | refine block_e ?_ | refine aw_block ?_ | refine aw_skip ?_ | refine aw_ret ?_ | refine aw_exit ?_ | refine aw_loop ?_ | refine aw_condc_t ?_ | refine aw_condc_f ?_ | refine draw_nil ?_ | refine regD fun K hK => ?_)
        | (with_reducible refine hK _ ?_; clear hK K)
        | (with_reducible refine hK _ _ ?_ ?_; (· kernel_rfl); clear hK K)
        | ((with_reducible first | refine gO_some ?_ ?_ | refine aw_condE ?_ ?_ | refine block_o ?_ ?_); (· decide))
        | (with_reducible refine aw_drawB tk0 lv_trammel_trammellaw04_CutStays ?_ ?_; (· kernel_rfl))
        | ((with_reducible first | refine guardG_b (fun hc => ?_) (fun hc => ?_) | refine condV_b (fun hc => ?_) (fun hc => ?_)) <;> (try simp only [decide_eq_true_eq, decide_eq_false_iff_not, Bool.not_true, Bool.not_false, Bool.not_eq_true', Bool.not_eq_false'] at hc) <;> (try (exfalso; omega)))
        | (with_reducible refine and_i ?_ ?_; (· first | omega | assumption | (refine ⟨?_, ?_⟩ <;> (first | omega | assumption | (simp only [List.length_append, List.length_map, List.length_cons, List.length_nil] <;> omega))) | (refine ⟨?_, ?_, ?_⟩ <;> (first | omega | assumption | (simp only [List.length_append, List.length_map, List.length_cons, List.length_nil] <;> omega))) | (simp only [List.length_append, List.length_map, List.length_cons, List.length_nil] <;> omega)))
        | (with_reducible refine ex_callT (h1) ?_)
        | (with_reducible refine ex_callT (hs) ?_)
        | (with_reducible refine ex_okT (eql_nil) ?_)
        | (with_reducible refine ex_okT (eql_bb _ _) ?_)
        | (with_reducible refine ex_okT (eql_pure _) ?_)
        | (with_reducible refine ex_seal ?_)
        | fail)
  have hlt2 : ((i : Int) < (ps.length : Int)) = True := eq_true (by omega)
  have hkwi := wrap_1 (n := i) (by omega)
  clear hlt' h1 hs herr
  have hx5 : isFo (foA qs) = true := rfl
  unfold isFo at hx5
  repeat' (first
    | (with_reducible refine hY _ ?_; clear hY Y)
    | ((with_reducible first | refine run_n rfl (runN fun K' hK' => todo ?_) | refine hK' _ (eqTo2 fun Y hY => todo ?_) | refine run_g rfl (eqTo2 fun Y hY => todo ?_) | refine eqTo2 fun Y hY => todo ?_ | refine runN fun K' hK' => todo ?_ | refine aw_regionB tk0 lv_trammel_trammellaw04_CutStays (eqTo2 fun Y hY => todo ?_) | refine todo ?_ | refine qretT_r ?_ | refine draw_n rfl (drawN fun K' hK' => todo ?_) | refine hK' _ _ (eqTo2 fun Y hY => todo ?_) | refine draw_g rfl (eqTo2 fun Y hY => todo ?_) | refine drawN fun K' hK' => todo ?_ | refine qretT_n ?_); (try clear hK' K'); (try dsimp only [aop]); try simp only [go_sem, ↓reduceIte, Nat.reduceEqDiff, Nat.reduceLT, Nat.reduceLeDiff, Nat.reduceAdd, Nat.reduceSub, Nat.reduceMul, Nat.reduceBEq, Nat.reduceBNe, Nat.reducePow, Int.reduceToNat, Int.reduceLE, Int.reduceLT, Int.reduceMul, Int.reduceEq, Int.reducePow, Int.reduceAdd, Int.reduceSub, Int.reduceNeg, reduceCtorEq, lv_trammel_trammellaw04_CutStays, Try.results3, hlt2, heh, hx5])
    | (with_reducible first | refine run_nil ?_ | refine guardG_n rfl ?_ | refine guardG_y ?_ | refine guardG_u ?_ | refine andD ?_ ?_ | refine then_n ?_ | refine aw_seq ?_ | refine regN fun K hK => ?_ | refine condV_t ?_ | refine condV_f ?_ | refine then_e ?_ | refine then_r ?_ | refine block_n ?_ | refine block_r ?_ | refine block_e ?_ | refine aw_block ?_ | refine aw_skip ?_ | refine aw_ret ?_ | refine aw_exit ?_ | refine aw_loop ?_ | refine aw_condc_t ?_ | refine aw_condc_f ?_ | refine draw_nil ?_ | refine regD fun K hK => ?_)
    | (with_reducible refine hK _ ?_; clear hK K)
    | (with_reducible refine hK _ _ ?_ ?_; (· kernel_rfl); clear hK K)
    | ((with_reducible first | refine gO_some ?_ ?_ | refine aw_condE ?_ ?_ | refine block_o ?_ ?_); (· decide))
    | (with_reducible refine aw_drawB tk0 lv_trammel_trammellaw04_CutStays ?_ ?_; (· kernel_rfl))
    | ((with_reducible first | refine guardG_b (fun hc => ?_) (fun hc => ?_) | refine condV_b (fun hc => ?_) (fun hc => ?_)) <;> (try simp only [decide_eq_true_eq, decide_eq_false_iff_not, Bool.not_true, Bool.not_false, Bool.not_eq_true', Bool.not_eq_false'] at hc) <;> (try (exfalso; omega)))
    | (with_reducible refine and_i ?_ ?_; (· first | omega | assumption | (refine ⟨?_, ?_⟩ <;> (first | omega | assumption | (simp only [List.length_append, List.length_map, List.length_cons, List.length_nil] <;> omega))) | (refine ⟨?_, ?_, ?_⟩ <;> (first | omega | assumption | (simp only [List.length_append, List.length_map, List.length_cons, List.length_nil] <;> omega))) | (simp only [List.length_append, List.length_map, List.length_cons, List.length_nil] <;> omega)))
    | (with_reducible refine ex_seal ?_)
    | fail)
  refine awl_ind (α := Nat × List Ln) (fun a => [(0, lnsA ps), (1, stpsA ss), (5, .c (.bool true)), (7, .ow 10044 0 ps.length ps.length), (9, lnsA ls), (10, ERR), (11, .c (.bool true)), (12, inA (i : Int)), (13, inA (a.1 : Int)), (10041, foA a.2), (10044, .br (ownC 10041 0 a.2) ps.length 28 2)])
    (fun a => a.1 ≤ (a.2.getD i ln0d).t.length ∧ a.2.length = ps.length ∧ ∀ l ∈ a.2, l.t.length ≤ 8796093022207) (fun a => (a.2.getD i ln0d).t.length - a.1) (0, qs) [0, 1, 5, 7, 9, 10, 11, 12, 13] ?_ ⟨Nat.zero_le _, hql, hqb⟩ ?_
  · simp only [go_sem, ↓reduceIte, Nat.reduceEqDiff, Nat.reduceLT, Nat.reduceLeDiff, Nat.reduceAdd, Nat.reduceSub, Nat.reduceMul, Nat.reduceBEq, Nat.reduceBNe, Nat.reducePow, Int.reduceToNat, Int.reduceLE, Int.reduceLT, Int.reduceMul, Int.reduceEq, Int.reducePow, Int.reduceAdd, Int.reduceSub, Int.reduceNeg, reduceCtorEq, heh] <;> rfl
  rintro ⟨k, rs⟩ ⟨hk, hrl, hrb⟩ ihk
  simp only at hk hrl hrb ihk ⊢
  have hir : i < rs.length := by omega
  have hgd : rs.getD i ln0d = rs[i] := by simp [List.getD_eq_getElem?_getD, hir]
  rw [hgd] at hk ihk
  have hO1 := ownC_get1 10041 0 hir
  rw [Nat.zero_add] at hO1
  have hOl : (ownC 10041 0 rs).length = ps.length * 2 := by rw [ownC_len, hrl]
  have hOr : ∀ b, b < 1000000 → (ownC 10041 0 rs).any (hasRef b 4) = false := fun b hb => ownC_ref4 hb 10041 0 _
  by_cases hkl : k < rs[i].t.length
  · have hkl2 : ((k : Int) < (rs[i].t.length : Int)) = True := eq_true (by omega)
    have hbt := hrb _ (List.getElem_mem hir)
    have hkw := wrap_1 (n := k) (by omega)
    have hcl := cellsM_len rs[i].t
    have hrow : (famA rs).getD i .u = .br (cellsM rs[i].t) rs[i].t.length 35 2 := by simp [famA, List.getD_eq_getElem?_getD, hir]
    have hpt := putM2 hkl 7
    have hfr : ∀ b, hasRef b 5 (.fo (famA rs)) = false := fun b => foA_ref5 b rs
    simp only [hasRef] at hfr
    have hset := foA_set rs i ⟨rs[i].c, rs[i].t.set k (rs[i].t[k].1, 7)⟩
    simp only [List.length_set] at hset
    have hos : ownC 10041 0 (rs.set i ⟨rs[i].c, rs[i].t.set k (rs[i].t[k].1, 7)⟩) = ownC 10041 0 rs := ownC_same 10041 0 (by
      rw [List.map_set]
      apply List.ext_getElem?
      intro j
      rw [List.getElem?_set]
      split
      · rename_i hij; subst hij; simp [hir]
      · rfl)
    have ih' := ihk (k + 1, rs.set i ⟨rs[i].c, rs[i].t.set k (rs[i].t[k].1, 7)⟩) ⟨by
        simp [List.getD_eq_getElem?_getD, hir]; omega, by simp only [List.length_set]; exact hrl, fun l hl => by
        rcases List.mem_or_eq_of_mem_set hl with h | rfl
        · exact hrb l h
        · simp only [List.length_set]; exact hbt⟩ (by simp [List.getD_eq_getElem?_getD, hir]; omega)
    simp only at ih'
    rw [hos, hset, ← hpt] at ih'
    unfold putAt at ih'
    have hfo : foA rs = .fo (famA rs) := rfl
    clear ihk ih hset hos hpt hrb hqb hk hgd
    generalize rs[i].t = t at *
    generalize famA rs = FR at *
    generalize ownC 10041 0 rs = OC at *
    generalize foA rs = FX at *
    subst hfo
    repeat' (first
      | (with_reducible refine hY _ ?_; clear hY Y)
      | ((with_reducible first | refine run_n rfl (runN fun K' hK' => todo ?_) | refine hK' _ (eqTo2 fun Y hY => todo ?_) | refine run_g rfl (eqTo2 fun Y hY => todo ?_) | refine eqTo2 fun Y hY => todo ?_ | refine runN fun K' hK' => todo ?_ | refine aw_regionB tk0 lv_trammel_trammellaw04_CutStays (eqTo2 fun Y hY => todo ?_) | refine todo ?_ | refine qretT_r ?_ | refine draw_n rfl (drawN fun K' hK' => todo ?_) | refine hK' _ _ (eqTo2 fun Y hY => todo ?_) | refine draw_g rfl (eqTo2 fun Y hY => todo ?_) | refine drawN fun K' hK' => todo ?_ | refine qretT_n ?_); (try clear hK' K'); (try dsimp only [aop]); try simp only [go_sem, ↓reduceIte, Nat.reduceEqDiff, Nat.reduceLT, Nat.reduceLeDiff, Nat.reduceAdd, Nat.reduceSub, Nat.reduceMul, Nat.reduceBEq, Nat.reduceBNe, Nat.reducePow, Int.reduceToNat, Int.reduceLE, Int.reduceLT, Int.reduceMul, Int.reduceEq, Int.reducePow, Int.reduceAdd, Int.reduceSub, Int.reduceNeg, reduceCtorEq, lv_trammel_trammellaw04_CutStays, Try.results3, hkl2, hkw, hO1, hOl, hOr, hfr, hcl, hrow, heh])
      | (with_reducible first | refine run_nil ?_ | refine guardG_n rfl ?_ | refine guardG_y ?_ | refine guardG_u ?_ | refine andD ?_ ?_ | refine then_n ?_ | refine aw_seq ?_ | refine regN fun K hK => ?_ | refine condV_t ?_ | refine condV_f ?_ | refine then_e ?_ | refine then_r ?_ | refine block_n ?_ | refine block_r ?_ | refine block_e ?_ | refine aw_block ?_ | refine aw_skip ?_ | refine aw_ret ?_ | refine aw_exit ?_ | refine aw_loop ?_ | refine aw_condc_t ?_ | refine aw_condc_f ?_ | refine draw_nil ?_ | refine regD fun K hK => ?_)
      | (with_reducible refine hK _ ?_; clear hK K)
      | (with_reducible refine hK _ _ ?_ ?_; (· kernel_rfl); clear hK K)
      | ((with_reducible first | refine gO_some ?_ ?_ | refine aw_condE ?_ ?_ | refine block_o ?_ ?_); (· decide))
      | (with_reducible refine aw_drawB tk0 lv_trammel_trammellaw04_CutStays ?_ ?_; (· kernel_rfl))
      | ((with_reducible first | refine guardG_b (fun hc => ?_) (fun hc => ?_) | refine condV_b (fun hc => ?_) (fun hc => ?_)) <;> (try simp only [decide_eq_true_eq, decide_eq_false_iff_not, Bool.not_true, Bool.not_false, Bool.not_eq_true', Bool.not_eq_false'] at hc) <;> (try (exfalso; omega)))
      | (with_reducible refine and_i ?_ ?_; (· first | omega | assumption | (refine ⟨?_, ?_⟩ <;> (first | omega | assumption | (simp only [List.length_append, List.length_map, List.length_cons, List.length_nil] <;> omega))) | (refine ⟨?_, ?_, ?_⟩ <;> (first | omega | assumption | (simp only [List.length_append, List.length_map, List.length_cons, List.length_nil] <;> omega))) | (simp only [List.length_append, List.length_map, List.length_cons, List.length_nil] <;> omega)))
      | (with_reducible refine ex_seal ?_)
      | fail)
    refine awl_keep [0, 1, 5, 7, 9, 10, 11, 12, 13] (by simp only [go_sem, ↓reduceIte, Nat.reduceEqDiff, Nat.reduceLT, Nat.reduceLeDiff, Nat.reduceAdd, Nat.reduceSub, Nat.reduceMul, Nat.reduceBEq, Nat.reduceBNe, Nat.reducePow, Int.reduceToNat, Int.reduceLE, Int.reduceLT, Int.reduceMul, Int.reduceEq, Int.reducePow, Int.reduceAdd, Int.reduceSub, Int.reduceNeg, reduceCtorEq, hOr, hfr, heh]; exact rfl) ?_
    refine awl_eq ih' ?_
    simp
  · have hkl2 : ((k : Int) < (rs[i].t.length : Int)) = False := eq_false (by omega)
    have ih' := ih (i + 1, rs) ⟨by simp only; omega, hrl, hrb⟩ (by simp only; omega)
    simp only at ih'
    clear ihk ih
    generalize ownC 10041 0 rs = OC at *
    have hfx : ∀ b, hasRef b 5 (foA rs) = false := fun b => foA_ref5 b rs
    have hfi : isFo (foA rs) = true := rfl
    have hfi2 := hfi
    unfold isFo at hfi2
    generalize hFX : foA rs = FX at *
    repeat' (first
      | (with_reducible refine hY _ ?_; clear hY Y)
      | ((with_reducible first | refine run_n rfl (runN fun K' hK' => todo ?_) | refine hK' _ (eqTo2 fun Y hY => todo ?_) | refine run_g rfl (eqTo2 fun Y hY => todo ?_) | refine eqTo2 fun Y hY => todo ?_ | refine runN fun K' hK' => todo ?_ | refine aw_regionB tk0 lv_trammel_trammellaw04_CutStays (eqTo2 fun Y hY => todo ?_) | refine todo ?_ | refine qretT_r ?_ | refine draw_n rfl (drawN fun K' hK' => todo ?_) | refine hK' _ _ (eqTo2 fun Y hY => todo ?_) | refine draw_g rfl (eqTo2 fun Y hY => todo ?_) | refine drawN fun K' hK' => todo ?_ | refine qretT_n ?_); (try clear hK' K'); (try dsimp only [aop]); try simp only [go_sem, ↓reduceIte, Nat.reduceEqDiff, Nat.reduceLT, Nat.reduceLeDiff, Nat.reduceAdd, Nat.reduceSub, Nat.reduceMul, Nat.reduceBEq, Nat.reduceBNe, Nat.reducePow, Int.reduceToNat, Int.reduceLE, Int.reduceLT, Int.reduceMul, Int.reduceEq, Int.reducePow, Int.reduceAdd, Int.reduceSub, Int.reduceNeg, reduceCtorEq, lv_trammel_trammellaw04_CutStays, Try.results3, hkl2, hkwi, hO1, hOl, hOr, heh, hfx, hfi, hfi2])
      | (with_reducible first | refine run_nil ?_ | refine guardG_n rfl ?_ | refine guardG_y ?_ | refine guardG_u ?_ | refine andD ?_ ?_ | refine then_n ?_ | refine aw_seq ?_ | refine regN fun K hK => ?_ | refine condV_t ?_ | refine condV_f ?_ | refine then_e ?_ | refine then_r ?_ | refine block_n ?_ | refine block_r ?_ | refine block_e ?_ | refine aw_block ?_ | refine aw_skip ?_ | refine aw_ret ?_ | refine aw_exit ?_ | refine aw_loop ?_ | refine aw_condc_t ?_ | refine aw_condc_f ?_ | refine draw_nil ?_ | refine regD fun K hK => ?_)
      | (with_reducible refine hK _ ?_; clear hK K)
      | (with_reducible refine hK _ _ ?_ ?_; (· kernel_rfl); clear hK K)
      | ((with_reducible first | refine gO_some ?_ ?_ | refine aw_condE ?_ ?_ | refine block_o ?_ ?_); (· decide))
      | (with_reducible refine aw_drawB tk0 lv_trammel_trammellaw04_CutStays ?_ ?_; (· kernel_rfl))
      | ((with_reducible first | refine guardG_b (fun hc => ?_) (fun hc => ?_) | refine condV_b (fun hc => ?_) (fun hc => ?_)) <;> (try simp only [decide_eq_true_eq, decide_eq_false_iff_not, Bool.not_true, Bool.not_false, Bool.not_eq_true', Bool.not_eq_false'] at hc) <;> (try (exfalso; omega)))
      | (with_reducible refine and_i ?_ ?_; (· first | omega | assumption | (refine ⟨?_, ?_⟩ <;> (first | omega | assumption | (simp only [List.length_append, List.length_map, List.length_cons, List.length_nil] <;> omega))) | (refine ⟨?_, ?_, ?_⟩ <;> (first | omega | assumption | (simp only [List.length_append, List.length_map, List.length_cons, List.length_nil] <;> omega))) | (simp only [List.length_append, List.length_map, List.length_cons, List.length_nil] <;> omega)))
      | (with_reducible refine ex_seal ?_)
      | fail)
    refine awl_keep [0, 1, 5, 7, 9, 10, 11, 12] (by simp only [go_sem, ↓reduceIte, Nat.reduceEqDiff, Nat.reduceLT, Nat.reduceLeDiff, Nat.reduceAdd, Nat.reduceSub, Nat.reduceMul, Nat.reduceBEq, Nat.reduceBNe, Nat.reducePow, Int.reduceToNat, Int.reduceLE, Int.reduceLT, Int.reduceMul, Int.reduceEq, Int.reducePow, Int.reduceAdd, Int.reduceSub, Int.reduceNeg, reduceCtorEq, hOr, heh, hfx, hfi, hfi2]; exact rfl) ?_
    refine awl_eq ih' ?_
    simp
end Go.Proofs.Ytjabaenpkimmjaa
