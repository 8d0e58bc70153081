/- trammellaw00.Is and Told, in K. -/
import Derived.Test.YtijpbgflkdjcdaaDoorIsD
import Derived.Test.YtijpbgflkdjcdaaDoorTolA
namespace Go.Proofs.YtijpbgflkdjcdaaDoor
set_option linter.unusedSimpArgs false
set_option linter.unusedVariables false
open Go.RowKit
/-- What the laid variable errors.errorType holds. -/
theorem gl_errorType {G : Gh} {w : World} (hag : ∀ b o v, G.Z b o = some v → w.cell? ⟨b, o, none⟩ = some v ∧ v.oneCell' = true) (hgl : Gl G.Z) : w.cell? ⟨0, 0, none⟩ = some (rty 27) := by
  have h := hgl 0 _ rfl
  obtain ⟨b, off, f, e, hz, hp⟩ := inv_rf (VRel.p (G := G) (B := extGet []) h)
  have h1 := hz 0 (by simp)
  have h2 := hp 0 (by simp)
  have h3 := (hag _ _ _ h1).1
  obtain ⟨v', e2, h4⟩ := inv_ifc (VRel.p (G := G) (B := extGet []) h2)
  obtain ⟨vs, e3, hs, _, hp4⟩ := inv_agg h4
  have h5 := inv_c (hp4 0 (by simp))
  have e4 : vs = #[hnd 27] := by
    cases vs with
    | mk l =>
      match l, hs with
      | [v0], _ => simp at h5; subst h5; rfl
  subst e4
  subst e3
  rw [e2] at h3
  simp only [Value.pointer.injEq, Option.some.injEq, Addr.mk.injEq] at e
  obtain ⟨q1, q2, _⟩ := e
  rw [← q1, Nat.add_zero, show off = 0 by omega] at h3
  exact h3
theorem is_spot_k (a0 at0 : Int) (e c : Nat) (he : e ≠ 0) : AFn Tryd.prog 14 [spotA a0 e, .c (.int .i64 at0), .c (.int .i64 c)] [] (.c (.bool (((e : Int) == (c : Int)) && (a0 == at0)))) [] :=
  afn_below fun w G vs hag hgl hs hargs => by
    have h0 := hargs 0 (by simp)
    have h1 := inv_c (hargs 1 (by simp))
    have h2 := inv_c (hargs 2 (by simp))
    obtain ⟨v', e0, h3⟩ := inv_ifc h0
    obtain ⟨b, off, f, e1, hz, hp⟩ := inv_rf h3
    subst e1
    have hc0 := (hag _ _ _ (hz 0 (by simp))).1
    have hc1 := (hag _ _ _ (hz 1 (by simp))).1
    have p0 := inv_c (VRel.p (G := G) (B := extGet []) (hp 0 (by simp)))
    have p1 := hp 1 (by simp)
    simp only [List.getElem_cons_succ, List.getElem_cons_zero, codeA_pos he] at p0 p1
    obtain ⟨v2, e2, h4⟩ := inv_ifc (VRel.p (G := G) (B := extGet []) p1)
    have h5 := inv_c h4
    subst h5
    rw [p0] at hc0
    rw [e2] at hc1
    obtain rfl : vs = #[.iface 51 (.pointer (some ⟨b, off + 0, none⟩)), .int .i64 at0, .int .i64 c] := by
      cases vs with
      | mk l =>
        match l, hs with
        | [x, y, z], _ =>
          simp at e0 h1 h2
          subst e0 h1 h2
          rfl
    exact isSpot_any b (off + 0) a0 e at0 c w hc0 hc1 (gl_errorType hag hgl)
theorem is_code_k (at0 : Int) (a c : Nat) : AFn Tryd.prog 14 [codeA a, .c (.int .i64 at0), .c (.int .i64 c)] [] (.c (.bool false)) [] :=
  afn_below fun w G vs hag hgl hs hargs => by
    have h0 := hargs 0 (by simp)
    have h1 := inv_c (hargs 1 (by simp))
    have h2 := inv_c (hargs 2 (by simp))
    by_cases ha : a = 0
    · subst ha
      have h3 := inv_c (x := .nilIface) h0
      obtain rfl := args3 hs h3 h1 h2
      exact isNil_any c at0 w
    · simp only [List.getElem_cons_zero, codeA_pos ha] at h0
      obtain ⟨v2, e2, h4⟩ := inv_ifc h0
      have h5 := inv_c h4
      subst h5
      obtain rfl := args3 hs e2 h1 h2
      exact isCode_any a c at0 w (gl_errorType hag hgl)
def lv_trammel_trammellaw00_Told : Nat → List Nat
  | 0 => [0, 1, 2]
  | 1 => [0, 1, 2]
  | 2 => [0, 1]
  | 3 => [0, 1, 2]
  | _ => []
set_option maxRecDepth 100000 in
set_option maxHeartbeats 4000000 in
theorem told_k (e : Nat) (at0 : Int) (he : e ≤ 16) (h : e = 0 → at0 < 0) : AFn Tryd.prog 11 [errA e at0, .c (.int .i64 (e : Int)), .c (.int .i64 at0)] [] (.c (.bool true)) [] := by
  by_cases h0 : at0 < 0
  · have hc := code_k e he
    rw [show errA e at0 = codeA e from if_pos (.inl h0)]
    refine afn_of [] Tryd.func11 rfl Tryd.ntmps11 (Nat.le_of_ble_eq_true rfl) (Nat.le_of_ble_eq_true rfl) fun w0 G0 B0 Pr hB0 => ?_
    simp only [start, argMap, List.cons_append, List.nil_append]
    repeat' (first
      | (with_reducible refine hY _ ?_; clear hY Y)
      | ((with_reducible first | refine run_n rfl (runN fun K' hK' => todo ?_) | refine hK' _ (eqTo2 fun Y hY => todo ?_) | refine run_g rfl (eqTo2 fun Y hY => todo ?_) | refine eqTo2 fun Y hY => todo ?_ | refine runN fun K' hK' => todo ?_ | refine aw_regionB tk0 lv_trammel_trammellaw00_Told (eqTo2 fun Y hY => todo ?_) | refine todo ?_ | refine qretT_r ?_ | refine draw_n rfl (drawN fun K' hK' => todo ?_) | refine hK' _ _ (eqTo2 fun Y hY => todo ?_) | refine draw_g rfl (eqTo2 fun Y hY => todo ?_) | refine drawN fun K' hK' => todo ?_ | refine qretT_n ?_); (try clear hK' K'); (try dsimp only [aop]); try simp only [go_sem, ↓reduceIte, Nat.reduceEqDiff, Nat.reduceLT, Nat.reduceLeDiff, Nat.reduceAdd, Nat.reduceSub, Nat.reduceMul, Nat.reduceBEq, Nat.reduceBNe, Nat.reducePow, Int.reduceToNat, Int.reduceLE, Int.reduceLT, Int.reduceMul, Int.reduceEq, Int.reducePow, Int.reduceAdd, Int.reduceSub, Int.reduceNeg, reduceCtorEq, lv_trammel_trammellaw00_Told, Tryd.results11, h0])
      | (with_reducible first | refine run_nil ?_ | refine guardG_n rfl ?_ | refine guardG_y ?_ | refine guardG_u ?_ | refine andD ?_ ?_ | refine then_n ?_ | refine aw_seq ?_ | refine regN fun K hK => ?_ | refine condV_t ?_ | refine condV_f ?_ | refine then_e ?_ | refine then_r ?_ | refine block_n ?_ | refine block_r ?_ | refine block_e ?_ | refine aw_block ?_ | refine aw_skip ?_ | refine aw_ret ?_ | refine aw_exit ?_ | refine aw_loop ?_ | refine aw_condc_t ?_ | refine aw_condc_f ?_ | refine draw_nil ?_ | refine regD fun K hK => ?_)
      | (with_reducible refine hK _ ?_; clear hK K)
      | (with_reducible refine hK _ _ ?_ ?_; (· kernel_rfl); clear hK K)
      | ((with_reducible first | refine gO_some ?_ ?_ | refine aw_condE ?_ ?_ | refine block_o ?_ ?_); (· decide))
      | (with_reducible refine aw_drawB tk0 lv_trammel_trammellaw00_Told ?_ ?_; (· kernel_rfl))
      | ((with_reducible first | refine guardG_b (fun hc => ?_) (fun hc => ?_) | refine condV_b (fun hc => ?_) (fun hc => ?_)) <;> (try simp only [decide_eq_true_eq, decide_eq_false_iff_not, Bool.not_true, Bool.not_false, Bool.not_eq_true', Bool.not_eq_false'] at hc) <;> (try (exfalso; omega)))
      | (with_reducible refine and_i ?_ ?_; (· first | omega | assumption | (refine ⟨?_, ?_⟩ <;> (first | omega | assumption | (simp only [List.length_append, List.length_map, List.length_cons, List.length_nil] <;> omega))) | (refine ⟨?_, ?_, ?_⟩ <;> (first | omega | assumption | (simp only [List.length_append, List.length_map, List.length_cons, List.length_nil] <;> omega))) | (simp only [List.length_append, List.length_map, List.length_cons, List.length_nil] <;> omega)))
      | (with_reducible refine ex_callT (hc) ?_)
      | (with_reducible refine ex_seal ?_)
      | fail)
  · have he0 : e ≠ 0 := fun e0 => h0 (h e0)
    have hi := is_spot_k at0 at0 e e he0
    rw [show (((e : Int) == (e : Int)) && (at0 == at0)) = true by simp] at hi
    rw [show errA e at0 = spotA at0 e from if_neg (by rintro (h1 | h1) <;> contradiction)]
    unfold spotA at hi ⊢
    refine afn_of [] Tryd.func11 rfl Tryd.ntmps11 (Nat.le_of_ble_eq_true rfl) (Nat.le_of_ble_eq_true rfl) fun w0 G0 B0 Pr hB0 => ?_
    simp only [start, argMap, List.cons_append, List.nil_append]
    repeat' (first
      | (with_reducible refine hY _ ?_; clear hY Y)
      | ((with_reducible first | refine run_n rfl (runN fun K' hK' => todo ?_) | refine hK' _ (eqTo2 fun Y hY => todo ?_) | refine run_g rfl (eqTo2 fun Y hY => todo ?_) | refine eqTo2 fun Y hY => todo ?_ | refine runN fun K' hK' => todo ?_ | refine aw_regionB tk0 lv_trammel_trammellaw00_Told (eqTo2 fun Y hY => todo ?_) | refine todo ?_ | refine qretT_r ?_ | refine draw_n rfl (drawN fun K' hK' => todo ?_) | refine hK' _ _ (eqTo2 fun Y hY => todo ?_) | refine draw_g rfl (eqTo2 fun Y hY => todo ?_) | refine drawN fun K' hK' => todo ?_ | refine qretT_n ?_); (try clear hK' K'); (try dsimp only [aop]); try simp only [go_sem, ↓reduceIte, Nat.reduceEqDiff, Nat.reduceLT, Nat.reduceLeDiff, Nat.reduceAdd, Nat.reduceSub, Nat.reduceMul, Nat.reduceBEq, Nat.reduceBNe, Nat.reducePow, Int.reduceToNat, Int.reduceLE, Int.reduceLT, Int.reduceMul, Int.reduceEq, Int.reducePow, Int.reduceAdd, Int.reduceSub, Int.reduceNeg, reduceCtorEq, lv_trammel_trammellaw00_Told, Tryd.results11, h0])
      | (with_reducible first | refine run_nil ?_ | refine guardG_n rfl ?_ | refine guardG_y ?_ | refine guardG_u ?_ | refine andD ?_ ?_ | refine then_n ?_ | refine aw_seq ?_ | refine regN fun K hK => ?_ | refine condV_t ?_ | refine condV_f ?_ | refine then_e ?_ | refine then_r ?_ | refine block_n ?_ | refine block_r ?_ | refine block_e ?_ | refine aw_block ?_ | refine aw_skip ?_ | refine aw_ret ?_ | refine aw_exit ?_ | refine aw_loop ?_ | refine aw_condc_t ?_ | refine aw_condc_f ?_ | refine draw_nil ?_ | refine regD fun K hK => ?_)
      | (with_reducible refine hK _ ?_; clear hK K)
      | (with_reducible refine hK _ _ ?_ ?_; (· kernel_rfl); clear hK K)
      | ((with_reducible first | refine gO_some ?_ ?_ | refine aw_condE ?_ ?_ | refine block_o ?_ ?_); (· decide))
      | (with_reducible refine aw_drawB tk0 lv_trammel_trammellaw00_Told ?_ ?_; (· kernel_rfl))
      | ((with_reducible first | refine guardG_b (fun hc => ?_) (fun hc => ?_) | refine condV_b (fun hc => ?_) (fun hc => ?_)) <;> (try simp only [decide_eq_true_eq, decide_eq_false_iff_not, Bool.not_true, Bool.not_false, Bool.not_eq_true', Bool.not_eq_false'] at hc) <;> (try (exfalso; omega)))
      | (with_reducible refine and_i ?_ ?_; (· first | omega | assumption | (refine ⟨?_, ?_⟩ <;> (first | omega | assumption | (simp only [List.length_append, List.length_map, List.length_cons, List.length_nil] <;> omega))) | (refine ⟨?_, ?_, ?_⟩ <;> (first | omega | assumption | (simp only [List.length_append, List.length_map, List.length_cons, List.length_nil] <;> omega))) | (simp only [List.length_append, List.length_map, List.length_cons, List.length_nil] <;> omega)))
      | (with_reducible refine ex_callT (hi) ?_)
      | (with_reducible refine ex_seal ?_)
      | fail)
end Go.Proofs.YtijpbgflkdjcdaaDoor
