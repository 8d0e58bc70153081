/- The document's examples of parsing, in K. -/
import Derived.Test.YtpkcgdikbjaoaaaGreatDoorZ22
import Derived.Test.YtpkcgdikbjaoaaaGreatDoorZ21
import Derived.Test.YtpkcgdikbjaoaaaGreatDoorZ7
namespace Go.Proofs.YtpkcgdikbjaoaaaGreatDoor
set_option linter.unusedSimpArgs false
set_option linter.unusedVariables false
open Go.RowKit
def ra : Wd := [112, 114, 111, 99, 32, 112, 40, 120, 59, 32, 41, 32, 114, 101, 113, 117, 105, 114, 101, 115, 32, 101, 109, 112, 32, 101, 110, 115, 117, 114, 101, 115, 32, 101, 109, 112, 32, 123, 32, 120, 32, 58, 61, 32, 50, 32, 42, 32, 120, 32, 45, 32, 49, 59, 32, 125]
def tA : Wd := [112, 114, 111, 99, 32, 112]
theorem ya : (cX ra).2.1 = 0 := by kernel_rfl
theorem wL : (cX tA).2.1 = 0 := by kernel_rfl
theorem xV : (dG ra).2.err = none := by kernel_rfl
theorem wD : (dG ra).1 = [⟨[112], [[120]], [], asZ, asZ, [.mk 1 [120] [] [] (.mk 3 0 [] [.mk 4 2 [] [.mk 1 0 [120] []], .mk 0 1 [] []]) exZ coZ asZ [] [] [] [] []]⟩] := by kernel_rfl
theorem w8 : (dG tA).2.err = some (6, 11) := by kernel_rfl
def eG : Nat → List Nat
  | 0 => []
  | 1 => []
  | 2 => [1, 2]
  | 3 => [1, 2, 4]
  | _ => []
set_option maxRecDepth 100000 in
set_option maxHeartbeats 8000000 in
theorem ut : AFn Tryz.prog 5 [] [] (.c (.bool true)) [] := by
  have h1 := pI ra
  have h2 := pI tA
  unfold oS at h1 h2
  rw [if_pos ya, xV, wD] at h1
  rw [if_pos wL, w8] at h2
  have h3 := ny 6 6 11 11 (by decide)
  unfold jV at h3
  rw [eA (by decide)] at h3
  simp only [i3, ra, tA, List.length_cons, List.length_nil, fU, pcW, ez, stW, cW, exA, coA, coZ, asA, asZ, exZ, eV, gb, wkA, List.cons_append, List.nil_append, List.append_nil, List.map_cons, List.map_nil] at h1 h2 h3
  refine aK [] Tryz.func5 rfl Tryz.ntmps5 (Nat.le_of_ble_eq_true rfl) (Nat.le_of_ble_eq_true rfl) fun w0 G0 B0 Pr hB0 => ?_
  simp only [aQ, aI, List.cons_append, List.nil_append]
  repeat' (first | (with_reducible refine hY _ ?_; clear hY Y) | ((with_reducible first | refine av rfl (aD fun K' hK' => ab ?_) | refine hK' _ (ac fun Y hY => ab ?_) | refine bR rfl (ac fun Y hY => ab ?_) | refine ac fun Y hY => ab ?_ | refine aD fun K' hK' => ab ?_ | refine ae tk0 eG (ac fun Y hY => ab ?_) | refine ab ?_ | refine ap ?_); (try clear hK' K'); (try dsimp only [aop]); try simp only [go_sem, ↓reduceIte, Nat.reduceEqDiff, Nat.reduceLT, Nat.reduceLeDiff, Nat.reduceAdd, Nat.reduceSub, Nat.reduceMul, Nat.reduceBEq, Nat.reduceBNe, Nat.reducePow, Int.reduceToNat, Int.reduceLE, Int.reduceLT, Int.reduceMul, Int.reduceEq, Int.reducePow, Int.reduceAdd, Int.reduceSub, Int.reduceNeg, reduceCtorEq, eG, Tryz.results5]) | (with_reducible first | refine ai ?_ | refine aS ?_ | refine al ?_ | refine am ?_ | refine aL fun K hK => ?_ | refine az ?_) | (with_reducible refine hK _ ?_; clear hK K) | ((with_reducible refine aR ?_ ?_); (· decide)) | ((with_reducible refine bK (fun hc => ?_) (fun hc => ?_)) <;> (try simp only [decide_eq_true_eq, decide_eq_false_iff_not, Bool.not_true, Bool.not_false, Bool.not_eq_true', Bool.not_eq_false'] at hc) <;> (try (exfalso; omega))) | (with_reducible refine bQ ?_ ?_; (· (try and_intros) <;> first | omega | assumption | (simp only [List.length_append, List.length_map, List.length_cons, List.length_nil] <;> omega))) | (with_reducible refine aa (h1) ?_) | (with_reducible refine aa (h2) ?_) | (with_reducible refine aa (h3) ?_) | (with_reducible refine be (fb) ?_))
end Go.Proofs.YtpkcgdikbjaoaaaGreatDoor
