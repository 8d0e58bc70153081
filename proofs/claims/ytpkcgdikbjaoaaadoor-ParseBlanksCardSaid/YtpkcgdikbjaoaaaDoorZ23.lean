/- The document's examples of parsing, in K. -/
import Derived.Test.YtpkcgdikbjaoaaaDoorZ22
import Derived.Test.YtpkcgdikbjaoaaaDoorZ21
import Derived.Test.YtpkcgdikbjaoaaaDoorZ7
namespace Go.Proofs.YtpkcgdikbjaoaaaDoor
set_option linter.unusedSimpArgs false
set_option linter.unusedVariables false
open Go.RowKit
def lP : Wd := [112, 114, 111, 99, 32, 112, 40, 120, 59, 32, 41, 32, 114, 101, 113, 117, 105, 114, 101, 115, 32, 101, 109, 112, 32, 101, 110, 115, 117, 114, 101, 115, 32, 101, 109, 112, 32, 123, 32, 120, 32, 58, 61, 32, 50, 32, 42, 32, 120, 32, 45, 32, 49, 59, 32, 125]
def nh : Wd := [112, 114, 111, 99, 32, 112]
theorem rA : (cg lP).2.1 = 0 := by kernel_rfl
theorem rQ : (cg nh).2.1 = 0 := by kernel_rfl
theorem rK : (cH lP).2.err = none := by kernel_rfl
theorem qS : (cH lP).1 = [⟨[112], [[120]], [], asZ, asZ, [.mk 1 [120] [] [] (.mk 3 0 [] [.mk 4 2 [] [.mk 1 0 [120] []], .mk 0 1 [] []]) exZ coZ asZ [] [] [] [] []]⟩] := by kernel_rfl
theorem rz : (cH nh).2.err = some (6, 11) := by kernel_rfl
def cJ : Nat → List Nat
  | 0 => []
  | 1 => []
  | 2 => [1, 2]
  | 3 => [1, 2, 4]
  | _ => []
set_option maxRecDepth 100000 in
set_option maxHeartbeats 8000000 in
theorem sv : AFn Tryd.prog 4 [] [] (.c (.bool true)) [] := by
  have h1 := iI lP
  have h2 := iI nh
  unfold ly at h1 h2
  rw [if_pos rA, rK, qS] at h1
  rw [if_pos rQ, rz] at h2
  have h3 := ow 6 6 11 11 (by decide)
  unfold iv at h3
  rw [cO (by decide)] at h3
  simp only [gh, lP, nh, List.length_cons, List.length_nil, d9, pcW, dz, stW, b4, exA, coA, coZ, asA, asZ, exZ, eG, gK, wkA, List.cons_append, List.nil_append, List.append_nil, List.map_cons, List.map_nil] at h1 h2 h3
  refine aM [] Tryd.func4 rfl Tryd.ntmps4 (Nat.le_of_ble_eq_true rfl) (Nat.le_of_ble_eq_true rfl) fun w0 G0 B0 Pr hB0 => ?_
  simp only [aS, aJ, List.cons_append, List.nil_append]
  repeat' (first | (with_reducible refine hY _ ?_; clear hY Y) | ((with_reducible first | refine aD rfl (aN fun K' hK' => ab ?_) | refine hK' _ (ac fun Y hY => ab ?_) | refine bV rfl (ac fun Y hY => ab ?_) | refine ac fun Y hY => ab ?_ | refine aN fun K' hK' => ab ?_ | refine ae tk0 cJ (ac fun Y hY => ab ?_) | refine ab ?_ | refine av ?_); (try clear hK' K'); (try dsimp only [aop]); try simp only [go_sem, ↓reduceIte, Nat.reduceEqDiff, Nat.reduceLT, Nat.reduceLeDiff, Nat.reduceAdd, Nat.reduceSub, Nat.reduceMul, Nat.reduceBEq, Nat.reduceBNe, Nat.reducePow, Int.reduceToNat, Int.reduceLE, Int.reduceLT, Int.reduceMul, Int.reduceEq, Int.reducePow, Int.reduceAdd, Int.reduceSub, Int.reduceNeg, reduceCtorEq, cJ, Tryd.results4]) | (with_reducible first | refine aj ?_ | refine bl ?_ | refine ar ?_ | refine au ?_ | refine aT fun K hK => ?_ | refine aF ?_) | (with_reducible refine hK _ ?_; clear hK K) | ((with_reducible refine bh ?_ ?_); (· decide)) | ((with_reducible refine cu (fun hc => ?_) (fun hc => ?_)) <;> (try simp only [decide_eq_true_eq, decide_eq_false_iff_not, Bool.not_true, Bool.not_false, Bool.not_eq_true', Bool.not_eq_false'] at hc) <;> (try (exfalso; omega))) | (with_reducible refine bT ?_ ?_; (· (try and_intros) <;> first | omega | assumption | (simp only [List.length_append, List.length_map, List.length_cons, List.length_nil] <;> omega))) | (with_reducible refine aa (h1) ?_) | (with_reducible refine aa (h2) ?_) | (with_reducible refine aa (h3) ?_) | (with_reducible refine bE (cP) ?_))
end Go.Proofs.YtpkcgdikbjaoaaaDoor
