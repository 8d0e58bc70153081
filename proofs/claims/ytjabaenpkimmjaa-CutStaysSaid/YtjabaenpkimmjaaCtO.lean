/- Cut in K: the laws' head; lines that were told are sound. -/
import Derived.Test.YtjabaenpkimmjaaCtL
import Derived.Test.YtjabaenpkimmjaaCtN
namespace Go.Proofs.Ytjabaenpkimmjaa
set_option linter.unusedSimpArgs false
set_option linter.unusedVariables false
open Go.RowKit
@[go_sem] theorem ren_err (g : List (Nat × Nat)) (k e : Nat) (z : Int) : ren g (k + 3) (errA e z) = errA e z := by
  unfold errA; split
  · exact ren_code g (k + 1) e
  · rfl
@[go_sem] theorem names_err (tk : Bool) (k e : Nat) (z : Int) : names tk (k + 3) (errA e z) = [] := by
  unfold errA; split
  · exact names_code tk (k + 1) e
  · rfl
theorem ren_err3 (g : List (Nat × Nat)) (e : Nat) (z : Int) : ren g 3 (errA e z) = errA e z := ren_err g 0 e z
theorem ren_err4 (g : List (Nat × Nat)) (e : Nat) (z : Int) : ren g 4 (errA e z) = errA e z := ren_err g 1 e z
theorem names_err4 (tk : Bool) (e : Nat) (z : Int) : names tk 4 (errA e z) = [] := names_err tk 1 e z
attribute [go_sem] ren_err3 ren_err4 names_err4
theorem stepsN_lin : ∀ (ss : List Stp) (i : Nat) (ls : List Ln), (∀ l ∈ ls, linB l = true) → ∀ l ∈ (stepsN ss i ls).2.2, linB l = true
  | [], i, ls, h => h
  | s :: r, i, ls, h => by
    unfold stepsN
    split
    · rename_i h0
      refine stepsN_lin r (i + 1) _ fun l hl => ?_
      rcases List.mem_append.1 hl with hl | hl
      · exact h l hl
      · simp at hl; subst hl; exact stepN_lin h h0
    · intro l hl; simp at hl
theorem linesN_lin (ps : List Ln) (ss : List Stp) : ∀ l ∈ (linesN ps ss).2.2, linB l = true := by
  unfold linesN
  split
  · intro l hl; simp at hl
  · cases h : firstBad ps 0 with
    | some i => intro l hl; simp at hl
    | none => exact stepsN_lin ss 0 ps (firstBad_none ps 0 h)
theorem stepsN_nil : ∀ (ss : List Stp) (i : Nat) (ls : List Ln), (stepsN ss i ls).1 ≠ 0 → (stepsN ss i ls).2.2 = []
  | [], i, ls, h => absurd rfl h
  | s :: r, i, ls, h => by
    unfold stepsN at h ⊢
    split
    · rename_i h0
      rw [if_pos h0] at h
      exact stepsN_nil r _ _ h
    · rfl
theorem linesN_nil (ps : List Ln) (ss : List Stp) (h : (linesN ps ss).1 ≠ 0) : (linesN ps ss).2.2 = [] := by
  unfold linesN at h ⊢
  split
  · rfl
  · rename_i hl
    rw [if_neg hl] at h
    cases hb : firstBad ps 0 with
    | some i => rfl
    | none => rw [hb] at h; exact stepsN_nil _ _ _ h
abbrev upA : List Ln := [⟨-1, [(0, 1)]⟩, ⟨2, [(0, -1)]⟩]
abbrev upS : List Stp := [⟨[(0, 1), (1, 1)], 1⟩]
theorem upN : refutesN upA upS = (0, -1) := by
  have hk : varsT [(0, 1), (0, -1)] = [0] := by
    unfold varsT srtI
    rw [show keysT [(0, 1), (0, -1)] = [0] by decide, List.mergeSort_singleton]
  have hd : dividedN 1 [(0, 1), (0, -1)] 1 = (0, ⟨1, []⟩) := by
    unfold dividedN
    rw [hk]
    exact rfl
  have hs : stepN upA ⟨[(0, 1), (1, 1)], 1⟩ = (0, ⟨1, []⟩) := by
    have hp : partsN upA [(0, 1), (1, 1)] 0 [] = (0, 1, [(0, 1), (0, -1)]) := by decide
    unfold stepN
    simp only [hp, hd]
    rfl
  have hl : linesN upA upS = (0, -1, upA ++ [⟨1, []⟩]) := by
    unfold linesN
    rw [if_neg (by decide), show firstBad upA 0 = none by decide]
    simp only [upS]
    rw [stepsN_0 hs]; rfl
  unfold refutesN
  rw [hl]; rfl
theorem upN0 : refutesN [] [] = (8, -1) := rfl
def lv_trammel_trammellaw04_up : Nat → List Nat
  | 0 => []
  | 1 => []
  | 2 => [1]
  | 3 => [1, 2]
  | 4 => [3]
  | _ => []
set_option maxRecDepth 100000 in
set_option maxHeartbeats 8000000 in
theorem upCut_k : AFn Try.prog 4 [] [] (.c (.bool true)) [] := by
  have h1 := refutes_k upA upS ⟨by unfold Lg; simp, fun l hl => by simp at hl; rcases hl with rfl | rfl <;> simp⟩ ⟨by unfold Lg; simp, fun s hs => by simp at hs; subst hs; unfold Lg; simp⟩
  have h2 := refutes_k [] [] ⟨by unfold Lg; simp, fun l hl => absurd hl List.not_mem_nil⟩ ⟨by unfold Lg; simp, fun l hl => absurd hl List.not_mem_nil⟩
  rw [upN, show errA (0, (-1 : Int)).1 (0, (-1 : Int)).2 = .c .nilIface from err_0 _] at h1
  rw [upN0, show errA (8, (-1 : Int)).1 (8, (-1 : Int)).2 = codeA 8 from rfl, code_8] at h2
  have e1 : [lnsA upA, stpsA upS] = [.sl [inA (-1), .sl [inA 0, inA 1] 1 .none, inA 2, .sl [inA 0, inA (-1)] 1 .none] 2 .none, .sl [.sl [inA 0, inA 1, inA 1, inA 1] 2 .none, inA 1] 1 .none] := rfl
  have e2 : [lnsA [], stpsA []] = [.sl [] 0 .none, .sl [] 0 .none] := rfl
  rw [e1] at h1
  rw [e2] at h2
  refine afn_of [] Try.func4 rfl Try.ntmps4 (Nat.le_of_ble_eq_true rfl) (Nat.le_of_ble_eq_true rfl) fun w0 G0 B0 Pr hB0 => ?_
  simp only [start, argMap, List.cons_append, List.nil_append]
  repeat' (first
    | (with_reducible refine hY _ ?_; clear hY Y)
    | ((with_reducible first | refine run_n rfl (runN fun K' hK' => todo ?_) | refine hK' _ (eqTo2 fun Y hY => todo ?_) | refine run_g rfl (eqTo2 fun Y hY => todo ?_) | refine eqTo2 fun Y hY => todo ?_ | refine runN fun K' hK' => todo ?_ | refine aw_regionB tk0 lv_trammel_trammellaw04_up (eqTo2 fun Y hY => todo ?_) | refine todo ?_ | refine qretT_r ?_ | refine draw_n rfl (drawN fun K' hK' => todo ?_) | refine hK' _ _ (eqTo2 fun Y hY => todo ?_) | refine draw_g rfl (eqTo2 fun Y hY => todo ?_) | refine drawN fun K' hK' => todo ?_ | refine qretT_n ?_); (try clear hK' K'); (try dsimp only [aop]); try simp only [go_sem, ↓reduceIte, Nat.reduceEqDiff, Nat.reduceLT, Nat.reduceLeDiff, Nat.reduceAdd, Nat.reduceSub, Nat.reduceMul, Nat.reduceBEq, Nat.reduceBNe, Nat.reducePow, Int.reduceToNat, Int.reduceLE, Int.reduceLT, Int.reduceMul, Int.reduceEq, Int.reducePow, Int.reduceAdd, Int.reduceSub, Int.reduceNeg, reduceCtorEq, lv_trammel_trammellaw04_up, Try.results4])
    | (with_reducible first | refine run_nil ?_ | refine guardG_n rfl ?_ | refine guardG_y ?_ | refine guardG_u ?_ | refine andD ?_ ?_ | refine then_n ?_ | refine aw_seq ?_ | refine regN fun K hK => ?_ | refine condV_t ?_ | refine condV_f ?_ | refine then_e ?_ | refine then_r ?_ | refine block_n ?_ | refine block_r ?_ | refine block_e ?_ | refine aw_block ?_ | refine aw_skip ?_ | refine aw_ret ?_ | refine aw_exit ?_ | refine aw_loop ?_ | refine aw_condc_t ?_ | refine aw_condc_f ?_ | refine draw_nil ?_ | refine regD fun K hK => ?_)
    | (with_reducible refine hK _ ?_; clear hK K)
    | (with_reducible refine hK _ _ ?_ ?_; (· kernel_rfl); clear hK K)
    | ((with_reducible first | refine gO_some ?_ ?_ | refine aw_condE ?_ ?_ | refine block_o ?_ ?_); (· decide))
    | (with_reducible refine aw_drawB tk0 lv_trammel_trammellaw04_up ?_ ?_; (· kernel_rfl))
    | ((with_reducible first | refine guardG_b (fun hc => ?_) (fun hc => ?_) | refine condV_b (fun hc => ?_) (fun hc => ?_)) <;> (try simp only [decide_eq_true_eq, decide_eq_false_iff_not, Bool.not_true, Bool.not_false, Bool.not_eq_true', Bool.not_eq_false'] at hc) <;> (try (exfalso; omega)))
    | (with_reducible refine and_i ?_ ?_; (· first | omega | assumption | (refine ⟨?_, ?_⟩ <;> (first | omega | assumption | (simp only [List.length_append, List.length_map, List.length_cons, List.length_nil] <;> omega))) | (refine ⟨?_, ?_, ?_⟩ <;> (first | omega | assumption | (simp only [List.length_append, List.length_map, List.length_cons, List.length_nil] <;> omega))) | (simp only [List.length_append, List.length_map, List.length_cons, List.length_nil] <;> omega)))
    | (with_reducible refine ex_callT (afn_args 8 h1 ?_) ?_; (· simp [wkD]))
    | (with_reducible refine ex_callT (afn_args 8 h2 ?_) ?_; (· simp [wkD]))
    | (with_reducible refine ex_okT (eql_nil) ?_)
    | (with_reducible refine ex_okT (eql_code _ _) ?_)
    | (with_reducible refine ex_okT (eql_pure _) ?_)
    | (with_reducible refine ex_seal ?_)
    | fail)
end Go.Proofs.Ytjabaenpkimmjaa
