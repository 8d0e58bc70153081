/- slices.SortStableFunc in K, of terms that stand in order already: nothing is written. -/
import Derived.Test.YtiiaokjgbjhfhaaGreatDoorZ19
namespace Go.Proofs.YtiiaokjgbjhfhaaGreatDoor
set_option linter.unusedSimpArgs false
set_option linter.unusedVariables false
open Go.RowKit
theorem dE {n : Nat} (h : n ≤ 140737488351232) : IntKind.u64.wrap (n : Int) = (n : Int) := by simp [IntKind.wrap,IntKind.bits,IntKind.signed];omega
theorem gR {n : Nat} (h : n ≤ 140737488351232) : IntKind.i64.wrap (n : Int) = (n : Int) := bQ (by omega) (by omega)
theorem io {n h : Nat} (e : h = n / 2) : (n : Int).fdiv 2 = (h : Int) := by rw [Int.fdiv_eq_ediv_of_nonneg _ (by decide),e];omega
def ac : Nat → List Nat
 | 0 => [0,1,2,3,4]
 | 1 => [0,1,2,3,4]
 | 2 => [0,1,3,4,10]
 | 3 => [0,1,4,10,11]
 | 4 => [0,1,4,10,11]
 | 5 => [0,1,4,10,11,12]
 | 6 => [0,1,4,11,12]
 | 7 => [0,1,4,10,12]
 | 8 => [0,1,10]
 | 9 => [0,10,13]
 | 10 => [0,10,13]
 | 11 => [0,10,13]
 | 12 => [0,1,2,3,4]
 | 13 => [0,1,2,4]
 | 14 => [0,2,4,14]
 | 15 => [0,2,4,14,15]
 | 16 => [0,2,4,14,15]
 | 17 => [0,2,4,14,15,16]
 | 18 => [0,2,4,15,16]
 | 19 => [0,2,4,14,16]
 | 20 => [0,2,14]
 | 21 => [0,14,17]
 | 22 => [0,14,17]
 | 23 => [0,14,17]
 | 24 => [0,1,2,3,4]
 | 25 => [0,1,2,3,4,18]
 | 26 => [0,1,2,3,4,18,19]
 | 27 => [0,1,2,3,4,18,19]
 | 28 => [0,1,2,3,4,18,19]
 | 29 => [0,1,2,3,4,18,19,20]
 | 30 => [0,1,2,3,4,18,19]
 | 31 => [0,1,2,3,4,18,19,20]
 | 32 => [0,1,2,3,4,18,19,20,21]
 | 33 => [0,1,2,3,4,18,19,20,21,22]
 | 34 => [0,1,2,3,4,18,19,20,21,22]
 | 35 => [0,1,2,3,4,18,19,20,21,22,23]
 | 36 => [0,1,2,3,4,18,19,21,22,23]
 | 37 => [0,1,2,3,4,18,19,20,22,23]
 | 38 => [0,1,2,3,4,18,19,20]
 | 39 => [0,1,2,3,4,18,20,24]
 | 40 => [0,1,2,3,4,18,20,24]
 | 41 => [0,1,3,4,18,20,24]
 | 42 => [0,1,3,4,18,20,24]
 | 43 => [0,3,4,18,24]
 | 44 => [0,3,4,18,24]
 | _ => []
set_option maxRecDepth 100000 in
set_option maxHeartbeats 16000000 in
theorem rb (t : List Tm) (ht : js t) (hl : t.length ≤ 1000000) (a m b : Nat) (h1 : m = a + 1) (hmb : m < b) (hb : b ≤ t.length) : AFn Tryz.prog 88 [.sl (bx t) t.length .none,inA (a : Int),inA (m : Int),inA (b : Int),fA] [] (.tup []) [] := by
 have hF := hC
 have hfl := cu t
 have hw1 : IntKind.i64.wrap ((m : Int) - (a : Int)) = 1 := by rw [dv (by omega) (by omega),h1];simp
 have hga := dV (M := t) (i := a) (by omega)
 have hw2 := gF (k := m) (by omega) (by omega)
 have hlm : ((a : Int) < ((m - 1 : Nat) : Int)) = False := eq_false (by omega)
 have hal : ((a : Int) < (t.length : Int)) = True := eq_true (by omega)
 have ht2 := ht.2
 have ht1 := ht.1
 clear ht
 refine bi [] Tryz.func88 rfl Tryz.ntmps88 (Nat.le_of_ble_eq_true rfl) (Nat.le_of_ble_eq_true rfl) fun w0 G0 B0 Pr hB0 => ?_
 simp only [bu,bf,List.cons_append,List.nil_append]
 repeat' (first | (with_reducible refine hY _ ?_;clear hY Y) | ((with_reducible first | refine aX rfl (aR fun K' hK' => aa ?_) | refine hK' _ (ab fun Y hY => aa ?_) | refine aZ rfl (ab fun Y hY => aa ?_) | refine ab fun Y hY => aa ?_ | refine aR fun K' hK' => aa ?_ | refine ae tk0 ac (ab fun Y hY => aa ?_) | refine aa ?_ | refine aA ?_ | refine aT rfl (aq fun K' hK' => aa ?_) | refine hK' _ _ (ab fun Y hY => aa ?_) | refine aS rfl (ab fun Y hY => aa ?_) | refine aq fun K' hK' => aa ?_ | refine aK ?_);(try clear hK' K');(try dsimp only [aop]);try simp only [go_sem,↓reduceIte,Nat.reduceEqDiff,Nat.reduceLT,Nat.reduceLeDiff,Nat.reduceAdd,Nat.reduceSub,Nat.reduceMul,Nat.reduceBEq,Nat.reduceBNe,Nat.reducePow,Int.reduceToNat,Int.reduceLE,Int.reduceLT,Int.reduceMul,Int.reduceEq,Int.reducePow,Int.reduceAdd,Int.reduceSub,Int.reduceNeg,reduceCtorEq,ac,Tryz.results88,hw1]) | (with_reducible first | refine av ?_ | refine an rfl ?_ | refine ap ?_ | refine ao ?_ | refine bk ?_ ?_ | refine aO ?_ | refine aN ?_ | refine bj fun K hK => ?_ | refine ay ?_ | refine az ?_ | refine aU ?_ | refine aQ ?_ | refine aC ?_ | refine aD ?_ | refine aF ?_ | refine aj ?_ | refine ax ?_ | refine aP ?_ | refine aE ?_ | refine aB ?_ | refine ag ?_ | refine af ?_ | refine al ?_ | refine bl fun K hK => ?_) | (with_reducible refine hK _ ?_;clear hK K) | (with_reducible refine hK _ _ ?_ ?_;(· kernel_rfl);clear hK K) | ((with_reducible first | refine aJ ?_ ?_ | refine ai ?_ ?_ | refine aG ?_ ?_);(· decide)) | (with_reducible refine ak tk0 ac ?_ ?_;(· kernel_rfl)) | ((with_reducible first | refine am (fun hc => ?_) (fun hc => ?_) | refine aH (fun hc => ?_) (fun hc => ?_)) <;> (try simp only [decide_eq_true_eq,decide_eq_false_iff_not,Bool.not_true,Bool.not_false,Bool.not_eq_true',Bool.not_eq_false'] at hc) <;> (try (exfalso;omega))) | (with_reducible refine aY ?_ ?_;(· (try and_intros) <;> first | omega | assumption | (simp only [List.length_append,List.length_map,List.length_cons,List.length_nil] <;> omega))) | (with_reducible refine aI ?_) | fail)
 refine cq (α := Nat) (fun j => [(0,.sl (bx t) t.length .none),(1,inA (a : Int)),(4,fA),(10,inA (m : Int)),(11,inA (j : Int))]) (fun j => m ≤ j ∧ j ≤ b) (fun j => j) b [0,1,4,10,11] ?_ ⟨by omega,Nat.le_refl _⟩ ?_
 ·simp only [go_sem,↓reduceIte,Nat.reduceEqDiff,Nat.reduceLT,Nat.reduceLeDiff,Nat.reduceAdd,Nat.reduceSub,Nat.reduceMul,Nat.reduceBEq,Nat.reduceBNe,Nat.reducePow,Int.reduceToNat,Int.reduceLE,Int.reduceLT,Int.reduceMul,Int.reduceEq,Int.reducePow,Int.reduceAdd,Int.reduceSub,Int.reduceNeg,reduceCtorEq] <;> rfl
 rintro j ⟨hj1,hj2⟩ ih
 by_cases hlt : m < j
 ·have hlt' : ((m : Int) < (j : Int)) = True := eq_true (by omega)
  have hwa := dD (a := m) (b := j) (by omega)
  have hwu := dE (n := m + j) (by omega)
  obtain ⟨h,hh⟩ : ∃ h,h = (m + j) / 2 := ⟨_,rfl⟩
  have hsh := io hh
  have hwi := gR (n := h) (by omega)
  have hhl : ((h : Int) < (t.length : Int)) = True := eq_true (by omega)
  have hgh := dV (M := t) (i := h) (by omega)
  have hc := kj t[h] t[a] (ht2 _ _) (ht2 _ _)
  have hlt2 : (t[h].1 - t[a].1 < 0) = False := eq_false (by have := ht1 a h (by omega) (by omega) (by omega);omega)
  have ih' := ih h ⟨by omega,by omega⟩ (by omega)
  clear ih ht1 ht2
  generalize t[h] = p at *
  generalize t[a] = q at *
  repeat' (first | (with_reducible refine hY _ ?_;clear hY Y) | ((with_reducible first | refine aX rfl (aR fun K' hK' => aa ?_) | refine hK' _ (ab fun Y hY => aa ?_) | refine aZ rfl (ab fun Y hY => aa ?_) | refine ab fun Y hY => aa ?_ | refine aR fun K' hK' => aa ?_ | refine ae tk0 ac (ab fun Y hY => aa ?_) | refine aa ?_ | refine aA ?_ | refine aT rfl (aq fun K' hK' => aa ?_) | refine hK' _ _ (ab fun Y hY => aa ?_) | refine aS rfl (ab fun Y hY => aa ?_) | refine aq fun K' hK' => aa ?_ | refine aK ?_);(try clear hK' K');(try dsimp only [aop]);try simp only [go_sem,↓reduceIte,Nat.reduceEqDiff,Nat.reduceLT,Nat.reduceLeDiff,Nat.reduceAdd,Nat.reduceSub,Nat.reduceMul,Nat.reduceBEq,Nat.reduceBNe,Nat.reducePow,Int.reduceToNat,Int.reduceLE,Int.reduceLT,Int.reduceMul,Int.reduceEq,Int.reducePow,Int.reduceAdd,Int.reduceSub,Int.reduceNeg,reduceCtorEq,ac,Tryz.results88,hlt',hwa,hwu,hsh,hwi,hhl,hgh,hga,hfl,hF,hlt2,hal]) | (with_reducible first | refine av ?_ | refine an rfl ?_ | refine ap ?_ | refine ao ?_ | refine bk ?_ ?_ | refine aO ?_ | refine aN ?_ | refine bj fun K hK => ?_ | refine ay ?_ | refine az ?_ | refine aU ?_ | refine aQ ?_ | refine aC ?_ | refine aD ?_ | refine aF ?_ | refine aj ?_ | refine ax ?_ | refine aP ?_ | refine aE ?_ | refine aB ?_ | refine ag ?_ | refine af ?_ | refine al ?_ | refine bl fun K hK => ?_) | (with_reducible refine hK _ ?_;clear hK K) | (with_reducible refine hK _ _ ?_ ?_;(· kernel_rfl);clear hK K) | ((with_reducible first | refine aJ ?_ ?_ | refine ai ?_ ?_ | refine aG ?_ ?_);(· decide)) | (with_reducible refine ak tk0 ac ?_ ?_;(· kernel_rfl)) | ((with_reducible first | refine am (fun hc => ?_) (fun hc => ?_) | refine aH (fun hc => ?_) (fun hc => ?_)) <;> (try simp only [decide_eq_true_eq,decide_eq_false_iff_not,Bool.not_true,Bool.not_false,Bool.not_eq_true',Bool.not_eq_false'] at hc) <;> (try (exfalso;omega))) | (with_reducible refine aY ?_ ?_;(· (try and_intros) <;> first | omega | assumption | (simp only [List.length_append,List.length_map,List.length_cons,List.length_nil] <;> omega))) | (with_reducible refine au (hc) ?_) | (with_reducible refine aI ?_) | fail)
  refine bJ [0,1,4,10,11] (by simp only [go_sem,↓reduceIte,Nat.reduceEqDiff,Nat.reduceLT,Nat.reduceLeDiff,Nat.reduceAdd,Nat.reduceSub,Nat.reduceMul,Nat.reduceBEq,Nat.reduceBNe,Nat.reducePow,Int.reduceToNat,Int.reduceLE,Int.reduceLT,Int.reduceMul,Int.reduceEq,Int.reducePow,Int.reduceAdd,Int.reduceSub,Int.reduceNeg,reduceCtorEq];exact rfl) ?_
  exact ih'
 ·have hlt' : ((m : Int) < (j : Int)) = False := eq_false (by omega)
  clear ih ht1 ht2
  repeat' (first | (with_reducible refine hY _ ?_;clear hY Y) | ((with_reducible first | refine aX rfl (aR fun K' hK' => aa ?_) | refine hK' _ (ab fun Y hY => aa ?_) | refine aZ rfl (ab fun Y hY => aa ?_) | refine ab fun Y hY => aa ?_ | refine aR fun K' hK' => aa ?_ | refine ae tk0 ac (ab fun Y hY => aa ?_) | refine aa ?_ | refine aA ?_ | refine aT rfl (aq fun K' hK' => aa ?_) | refine hK' _ _ (ab fun Y hY => aa ?_) | refine aS rfl (ab fun Y hY => aa ?_) | refine aq fun K' hK' => aa ?_ | refine aK ?_);(try clear hK' K');(try dsimp only [aop]);try simp only [go_sem,↓reduceIte,Nat.reduceEqDiff,Nat.reduceLT,Nat.reduceLeDiff,Nat.reduceAdd,Nat.reduceSub,Nat.reduceMul,Nat.reduceBEq,Nat.reduceBNe,Nat.reducePow,Int.reduceToNat,Int.reduceLE,Int.reduceLT,Int.reduceMul,Int.reduceEq,Int.reducePow,Int.reduceAdd,Int.reduceSub,Int.reduceNeg,reduceCtorEq,ac,Tryz.results88,hlt']) | (with_reducible first | refine av ?_ | refine an rfl ?_ | refine ap ?_ | refine ao ?_ | refine bk ?_ ?_ | refine aO ?_ | refine aN ?_ | refine bj fun K hK => ?_ | refine ay ?_ | refine az ?_ | refine aU ?_ | refine aQ ?_ | refine aC ?_ | refine aD ?_ | refine aF ?_ | refine aj ?_ | refine ax ?_ | refine aP ?_ | refine aE ?_ | refine aB ?_ | refine ag ?_ | refine af ?_ | refine al ?_ | refine bl fun K hK => ?_) | (with_reducible refine hK _ ?_;clear hK K) | (with_reducible refine hK _ _ ?_ ?_;(· kernel_rfl);clear hK K) | ((with_reducible first | refine aJ ?_ ?_ | refine ai ?_ ?_ | refine aG ?_ ?_);(· decide)) | (with_reducible refine ak tk0 ac ?_ ?_;(· kernel_rfl)) | ((with_reducible first | refine am (fun hc => ?_) (fun hc => ?_) | refine aH (fun hc => ?_) (fun hc => ?_)) <;> (try simp only [decide_eq_true_eq,decide_eq_false_iff_not,Bool.not_true,Bool.not_false,Bool.not_eq_true',Bool.not_eq_false'] at hc) <;> (try (exfalso;omega))) | (with_reducible refine aY ?_ ?_;(· (try and_intros) <;> first | omega | assumption | (simp only [List.length_append,List.length_map,List.length_cons,List.length_nil] <;> omega))) | (with_reducible refine aI ?_) | fail)
  refine bV ?_
  repeat' (first | (with_reducible refine hY _ ?_;clear hY Y) | ((with_reducible first | refine aX rfl (aR fun K' hK' => aa ?_) | refine hK' _ (ab fun Y hY => aa ?_) | refine aZ rfl (ab fun Y hY => aa ?_) | refine ab fun Y hY => aa ?_ | refine aR fun K' hK' => aa ?_ | refine ae tk0 ac (ab fun Y hY => aa ?_) | refine aa ?_ | refine aA ?_ | refine aT rfl (aq fun K' hK' => aa ?_) | refine hK' _ _ (ab fun Y hY => aa ?_) | refine aS rfl (ab fun Y hY => aa ?_) | refine aq fun K' hK' => aa ?_ | refine aK ?_);(try clear hK' K');(try dsimp only [aop]);try simp only [go_sem,↓reduceIte,Nat.reduceEqDiff,Nat.reduceLT,Nat.reduceLeDiff,Nat.reduceAdd,Nat.reduceSub,Nat.reduceMul,Nat.reduceBEq,Nat.reduceBNe,Nat.reducePow,Int.reduceToNat,Int.reduceLE,Int.reduceLT,Int.reduceMul,Int.reduceEq,Int.reducePow,Int.reduceAdd,Int.reduceSub,Int.reduceNeg,reduceCtorEq,ac,Tryz.results88,hw2,hlm]) | (with_reducible first | refine av ?_ | refine an rfl ?_ | refine ap ?_ | refine ao ?_ | refine bk ?_ ?_ | refine aO ?_ | refine aN ?_ | refine bj fun K hK => ?_ | refine ay ?_ | refine az ?_ | refine aU ?_ | refine aQ ?_ | refine aC ?_ | refine aD ?_ | refine aF ?_ | refine aj ?_ | refine ax ?_ | refine aP ?_ | refine aE ?_ | refine aB ?_ | refine ag ?_ | refine af ?_ | refine al ?_ | refine bl fun K hK => ?_) | (with_reducible refine hK _ ?_;clear hK K) | (with_reducible refine hK _ _ ?_ ?_;(· kernel_rfl);clear hK K) | ((with_reducible first | refine aJ ?_ ?_ | refine ai ?_ ?_ | refine aG ?_ ?_);(· decide)) | (with_reducible refine ak tk0 ac ?_ ?_;(· kernel_rfl)) | ((with_reducible first | refine am (fun hc => ?_) (fun hc => ?_) | refine aH (fun hc => ?_) (fun hc => ?_)) <;> (try simp only [decide_eq_true_eq,decide_eq_false_iff_not,Bool.not_true,Bool.not_false,Bool.not_eq_true',Bool.not_eq_false'] at hc) <;> (try (exfalso;omega))) | (with_reducible refine aY ?_ ?_;(· (try and_intros) <;> first | omega | assumption | (simp only [List.length_append,List.length_map,List.length_cons,List.length_nil] <;> omega))) | (with_reducible refine aI ?_) | fail)
theorem rc (t : List Tm) (ht : js t) (hl : t.length ≤ 1000000) (a m b : Nat) (h1 : m ≠ a + 1) (ham : a < m) (hmb : b = m + 1) (hb : b ≤ t.length) : AFn Tryz.prog 88 [.sl (bx t) t.length .none,inA (a : Int),inA (m : Int),inA (b : Int),fA] [] (.tup []) [] := by
 have hF := hC
 have hfl := cu t
 have hw1 := dv (a := m) (b := a) (by omega) (by omega)
 have hn1 : (((m - a : Nat) : Int) = 1) = False := eq_false (by omega)
 have hw2 : IntKind.i64.wrap ((b : Int) - (m : Int)) = 1 := by rw [dv (by omega) (by omega),hmb];simp
 have hgm := dV (M := t) (i := m) (by omega)
 have hml : ((m : Int) < (t.length : Int)) = True := eq_true (by omega)
 have hmm : ((m : Int) < (m : Int)) = False := eq_false (by omega)
 have ht2 := ht.2
 have ht1 := ht.1
 clear ht
 refine bi [] Tryz.func88 rfl Tryz.ntmps88 (Nat.le_of_ble_eq_true rfl) (Nat.le_of_ble_eq_true rfl) fun w0 G0 B0 Pr hB0 => ?_
 simp only [bu,bf,List.cons_append,List.nil_append]
 repeat' (first | (with_reducible refine hY _ ?_;clear hY Y) | ((with_reducible first | refine aX rfl (aR fun K' hK' => aa ?_) | refine hK' _ (ab fun Y hY => aa ?_) | refine aZ rfl (ab fun Y hY => aa ?_) | refine ab fun Y hY => aa ?_ | refine aR fun K' hK' => aa ?_ | refine ae tk0 ac (ab fun Y hY => aa ?_) | refine aa ?_ | refine aA ?_ | refine aT rfl (aq fun K' hK' => aa ?_) | refine hK' _ _ (ab fun Y hY => aa ?_) | refine aS rfl (ab fun Y hY => aa ?_) | refine aq fun K' hK' => aa ?_ | refine aK ?_);(try clear hK' K');(try dsimp only [aop]);try simp only [go_sem,↓reduceIte,Nat.reduceEqDiff,Nat.reduceLT,Nat.reduceLeDiff,Nat.reduceAdd,Nat.reduceSub,Nat.reduceMul,Nat.reduceBEq,Nat.reduceBNe,Nat.reducePow,Int.reduceToNat,Int.reduceLE,Int.reduceLT,Int.reduceMul,Int.reduceEq,Int.reducePow,Int.reduceAdd,Int.reduceSub,Int.reduceNeg,reduceCtorEq,ac,Tryz.results88,hw1,hn1,hw2]) | (with_reducible first | refine av ?_ | refine an rfl ?_ | refine ap ?_ | refine ao ?_ | refine bk ?_ ?_ | refine aO ?_ | refine aN ?_ | refine bj fun K hK => ?_ | refine ay ?_ | refine az ?_ | refine aU ?_ | refine aQ ?_ | refine aC ?_ | refine aD ?_ | refine aF ?_ | refine aj ?_ | refine ax ?_ | refine aP ?_ | refine aE ?_ | refine aB ?_ | refine ag ?_ | refine af ?_ | refine al ?_ | refine bl fun K hK => ?_) | (with_reducible refine hK _ ?_;clear hK K) | (with_reducible refine hK _ _ ?_ ?_;(· kernel_rfl);clear hK K) | ((with_reducible first | refine aJ ?_ ?_ | refine ai ?_ ?_ | refine aG ?_ ?_);(· decide)) | (with_reducible refine ak tk0 ac ?_ ?_;(· kernel_rfl)) | ((with_reducible first | refine am (fun hc => ?_) (fun hc => ?_) | refine aH (fun hc => ?_) (fun hc => ?_)) <;> (try simp only [decide_eq_true_eq,decide_eq_false_iff_not,Bool.not_true,Bool.not_false,Bool.not_eq_true',Bool.not_eq_false'] at hc) <;> (try (exfalso;omega))) | (with_reducible refine aY ?_ ?_;(· (try and_intros) <;> first | omega | assumption | (simp only [List.length_append,List.length_map,List.length_cons,List.length_nil] <;> omega))) | (with_reducible refine aI ?_) | fail)
 refine cq (α := Nat) (fun i => [(0,.sl (bx t) t.length .none),(2,inA (m : Int)),(4,fA),(14,inA (i : Int)),(15,inA (m : Int))]) (fun i => a ≤ i ∧ i ≤ m) (fun i => m - i) a [0,2,4,14,15] ?_ ⟨Nat.le_refl _,by omega⟩ ?_
 ·simp only [go_sem,↓reduceIte,Nat.reduceEqDiff,Nat.reduceLT,Nat.reduceLeDiff,Nat.reduceAdd,Nat.reduceSub,Nat.reduceMul,Nat.reduceBEq,Nat.reduceBNe,Nat.reducePow,Int.reduceToNat,Int.reduceLE,Int.reduceLT,Int.reduceMul,Int.reduceEq,Int.reducePow,Int.reduceAdd,Int.reduceSub,Int.reduceNeg,reduceCtorEq] <;> rfl
 rintro i ⟨hi1,hi2⟩ ih
 by_cases hlt : i < m
 ·have hlt' : ((i : Int) < (m : Int)) = True := eq_true (by omega)
  have hwa := dD (a := i) (b := m) (by omega)
  have hwu := dE (n := i + m) (by omega)
  obtain ⟨h,hh⟩ : ∃ h,h = (i + m) / 2 := ⟨_,rfl⟩
  have hsh : ((i + m : Nat) : Int).fdiv 2 = (h : Int) := io hh
  have hwh := dE (n := h) (by omega)
  have hwi := gR (n := h) (by omega)
  have hwk := cR (n := h) (by omega)
  have hgh := dV (M := t) (i := h) (by omega)
  have hhl : ((h : Int) < (t.length : Int)) = True := eq_true (by omega)
  have hc := kj t[m] t[h] (ht2 _ _) (ht2 _ _)
  have hlt2 : (t[m].1 - t[h].1 < 0) = False := eq_false (by have := ht1 h m (by omega) (by omega) (by omega);omega)
  have ih' := ih (h + 1) ⟨by omega,by omega⟩ (by omega)
  clear ih ht1 ht2
  generalize t[h] = p at *
  generalize t[m] = q at *
  repeat' (first | (with_reducible refine hY _ ?_;clear hY Y) | ((with_reducible first | refine aX rfl (aR fun K' hK' => aa ?_) | refine hK' _ (ab fun Y hY => aa ?_) | refine aZ rfl (ab fun Y hY => aa ?_) | refine ab fun Y hY => aa ?_ | refine aR fun K' hK' => aa ?_ | refine ae tk0 ac (ab fun Y hY => aa ?_) | refine aa ?_ | refine aA ?_ | refine aT rfl (aq fun K' hK' => aa ?_) | refine hK' _ _ (ab fun Y hY => aa ?_) | refine aS rfl (ab fun Y hY => aa ?_) | refine aq fun K' hK' => aa ?_ | refine aK ?_);(try clear hK' K');(try dsimp only [aop]);try simp only [go_sem,↓reduceIte,Nat.reduceEqDiff,Nat.reduceLT,Nat.reduceLeDiff,Nat.reduceAdd,Nat.reduceSub,Nat.reduceMul,Nat.reduceBEq,Nat.reduceBNe,Nat.reducePow,Int.reduceToNat,Int.reduceLE,Int.reduceLT,Int.reduceMul,Int.reduceEq,Int.reducePow,Int.reduceAdd,Int.reduceSub,Int.reduceNeg,reduceCtorEq,ac,Tryz.results88,hlt',hwa,hwu,hsh,hwh,hwi,hwk,hgh,hgm,hfl,hF,hlt2,hml,hhl]) | (with_reducible first | refine av ?_ | refine an rfl ?_ | refine ap ?_ | refine ao ?_ | refine bk ?_ ?_ | refine aO ?_ | refine aN ?_ | refine bj fun K hK => ?_ | refine ay ?_ | refine az ?_ | refine aU ?_ | refine aQ ?_ | refine aC ?_ | refine aD ?_ | refine aF ?_ | refine aj ?_ | refine ax ?_ | refine aP ?_ | refine aE ?_ | refine aB ?_ | refine ag ?_ | refine af ?_ | refine al ?_ | refine bl fun K hK => ?_) | (with_reducible refine hK _ ?_;clear hK K) | (with_reducible refine hK _ _ ?_ ?_;(· kernel_rfl);clear hK K) | ((with_reducible first | refine aJ ?_ ?_ | refine ai ?_ ?_ | refine aG ?_ ?_);(· decide)) | (with_reducible refine ak tk0 ac ?_ ?_;(· kernel_rfl)) | ((with_reducible first | refine am (fun hc => ?_) (fun hc => ?_) | refine aH (fun hc => ?_) (fun hc => ?_)) <;> (try simp only [decide_eq_true_eq,decide_eq_false_iff_not,Bool.not_true,Bool.not_false,Bool.not_eq_true',Bool.not_eq_false'] at hc) <;> (try (exfalso;omega))) | (with_reducible refine aY ?_ ?_;(· (try and_intros) <;> first | omega | assumption | (simp only [List.length_append,List.length_map,List.length_cons,List.length_nil] <;> omega))) | (with_reducible refine au (hc) ?_) | (with_reducible refine aI ?_) | fail)
  refine bJ [0,2,4,14,15] (by simp only [go_sem,↓reduceIte,Nat.reduceEqDiff,Nat.reduceLT,Nat.reduceLeDiff,Nat.reduceAdd,Nat.reduceSub,Nat.reduceMul,Nat.reduceBEq,Nat.reduceBNe,Nat.reducePow,Int.reduceToNat,Int.reduceLE,Int.reduceLT,Int.reduceMul,Int.reduceEq,Int.reducePow,Int.reduceAdd,Int.reduceSub,Int.reduceNeg,reduceCtorEq];exact rfl) ?_
  exact ih'
 ·have hlt' : ((i : Int) < (m : Int)) = False := eq_false (by omega)
  obtain rfl : i = m := by omega
  clear ih ht1 ht2
  repeat' (first | (with_reducible refine hY _ ?_;clear hY Y) | ((with_reducible first | refine aX rfl (aR fun K' hK' => aa ?_) | refine hK' _ (ab fun Y hY => aa ?_) | refine aZ rfl (ab fun Y hY => aa ?_) | refine ab fun Y hY => aa ?_ | refine aR fun K' hK' => aa ?_ | refine ae tk0 ac (ab fun Y hY => aa ?_) | refine aa ?_ | refine aA ?_ | refine aT rfl (aq fun K' hK' => aa ?_) | refine hK' _ _ (ab fun Y hY => aa ?_) | refine aS rfl (ab fun Y hY => aa ?_) | refine aq fun K' hK' => aa ?_ | refine aK ?_);(try clear hK' K');(try dsimp only [aop]);try simp only [go_sem,↓reduceIte,Nat.reduceEqDiff,Nat.reduceLT,Nat.reduceLeDiff,Nat.reduceAdd,Nat.reduceSub,Nat.reduceMul,Nat.reduceBEq,Nat.reduceBNe,Nat.reducePow,Int.reduceToNat,Int.reduceLE,Int.reduceLT,Int.reduceMul,Int.reduceEq,Int.reducePow,Int.reduceAdd,Int.reduceSub,Int.reduceNeg,reduceCtorEq,ac,Tryz.results88,hlt']) | (with_reducible first | refine av ?_ | refine an rfl ?_ | refine ap ?_ | refine ao ?_ | refine bk ?_ ?_ | refine aO ?_ | refine aN ?_ | refine bj fun K hK => ?_ | refine ay ?_ | refine az ?_ | refine aU ?_ | refine aQ ?_ | refine aC ?_ | refine aD ?_ | refine aF ?_ | refine aj ?_ | refine ax ?_ | refine aP ?_ | refine aE ?_ | refine aB ?_ | refine ag ?_ | refine af ?_ | refine al ?_ | refine bl fun K hK => ?_) | (with_reducible refine hK _ ?_;clear hK K) | (with_reducible refine hK _ _ ?_ ?_;(· kernel_rfl);clear hK K) | ((with_reducible first | refine aJ ?_ ?_ | refine ai ?_ ?_ | refine aG ?_ ?_);(· decide)) | (with_reducible refine ak tk0 ac ?_ ?_;(· kernel_rfl)) | ((with_reducible first | refine am (fun hc => ?_) (fun hc => ?_) | refine aH (fun hc => ?_) (fun hc => ?_)) <;> (try simp only [decide_eq_true_eq,decide_eq_false_iff_not,Bool.not_true,Bool.not_false,Bool.not_eq_true',Bool.not_eq_false'] at hc) <;> (try (exfalso;omega))) | (with_reducible refine aY ?_ ?_;(· (try and_intros) <;> first | omega | assumption | (simp only [List.length_append,List.length_map,List.length_cons,List.length_nil] <;> omega))) | (with_reducible refine aI ?_) | fail)
  refine bV ?_
  repeat' (first | (with_reducible refine hY _ ?_;clear hY Y) | ((with_reducible first | refine aX rfl (aR fun K' hK' => aa ?_) | refine hK' _ (ab fun Y hY => aa ?_) | refine aZ rfl (ab fun Y hY => aa ?_) | refine ab fun Y hY => aa ?_ | refine aR fun K' hK' => aa ?_ | refine ae tk0 ac (ab fun Y hY => aa ?_) | refine aa ?_ | refine aA ?_ | refine aT rfl (aq fun K' hK' => aa ?_) | refine hK' _ _ (ab fun Y hY => aa ?_) | refine aS rfl (ab fun Y hY => aa ?_) | refine aq fun K' hK' => aa ?_ | refine aK ?_);(try clear hK' K');(try dsimp only [aop]);try simp only [go_sem,↓reduceIte,Nat.reduceEqDiff,Nat.reduceLT,Nat.reduceLeDiff,Nat.reduceAdd,Nat.reduceSub,Nat.reduceMul,Nat.reduceBEq,Nat.reduceBNe,Nat.reducePow,Int.reduceToNat,Int.reduceLE,Int.reduceLT,Int.reduceMul,Int.reduceEq,Int.reducePow,Int.reduceAdd,Int.reduceSub,Int.reduceNeg,reduceCtorEq,ac,Tryz.results88,hmm]) | (with_reducible first | refine av ?_ | refine an rfl ?_ | refine ap ?_ | refine ao ?_ | refine bk ?_ ?_ | refine aO ?_ | refine aN ?_ | refine bj fun K hK => ?_ | refine ay ?_ | refine az ?_ | refine aU ?_ | refine aQ ?_ | refine aC ?_ | refine aD ?_ | refine aF ?_ | refine aj ?_ | refine ax ?_ | refine aP ?_ | refine aE ?_ | refine aB ?_ | refine ag ?_ | refine af ?_ | refine al ?_ | refine bl fun K hK => ?_) | (with_reducible refine hK _ ?_;clear hK K) | (with_reducible refine hK _ _ ?_ ?_;(· kernel_rfl);clear hK K) | ((with_reducible first | refine aJ ?_ ?_ | refine ai ?_ ?_ | refine aG ?_ ?_);(· decide)) | (with_reducible refine ak tk0 ac ?_ ?_;(· kernel_rfl)) | ((with_reducible first | refine am (fun hc => ?_) (fun hc => ?_) | refine aH (fun hc => ?_) (fun hc => ?_)) <;> (try simp only [decide_eq_true_eq,decide_eq_false_iff_not,Bool.not_true,Bool.not_false,Bool.not_eq_true',Bool.not_eq_false'] at hc) <;> (try (exfalso;omega))) | (with_reducible refine aY ?_ ?_;(· (try and_intros) <;> first | omega | assumption | (simp only [List.length_append,List.length_map,List.length_cons,List.length_nil] <;> omega))) | (with_reducible refine aI ?_) | fail)
set_option maxRecDepth 100000 in
set_option maxHeartbeats 16000000 in
theorem re (t : List Tm) (ht : js t) (hl : t.length ≤ 1000000) (a m b mid : Nat) (hmid : mid = (a + b) / 2) (h1 : a + 1 < m) (h2 : m + 1 < b) (hb : b ≤ t.length)
  (r1 : mid < m → AFn Tryz.prog 88 [.sl (bx t) t.length .none,inA (mid : Int),inA (m : Int),inA (b : Int),fA] [] (.tup []) [])
  (r2 : m < mid → AFn Tryz.prog 88 [.sl (bx t) t.length .none,inA (a : Int),inA (m : Int),inA (mid : Int),fA] [] (.tup []) []) :
  AFn Tryz.prog 88 [.sl (bx t) t.length .none,inA (a : Int),inA (m : Int),inA (b : Int),fA] [] (.tup []) [] := by
 have hF := hC
 have hfl := cu t
 have hw1 := dv (a := m) (b := a) (by omega) (by omega)
 have hn1 : (((m - a : Nat) : Int) = 1) = False := eq_false (by omega)
 have hw2 := dv (a := b) (b := m) (by omega) (by omega)
 have hn2 : (((b - m : Nat) : Int) = 1) = False := eq_false (by omega)
 have hwa := dD (a := a) (b := b) (by omega)
 have hwu := dE (n := a + b) (by omega)
 have hsh : ((a + b : Nat) : Int).fdiv 2 = (mid : Int) := io hmid
 have hwh := dE (n := mid) (by omega)
 have hwi := gR (n := mid) (by omega)
 have hwn := dD (a := mid) (b := m) (by omega)
 have hp := gF (k := mid + m) (by omega) (by omega)
 have hmm : ((m : Int) < (m : Int)) = False := eq_false (by omega)
 have hdd : ((mid : Int) < (mid : Int)) = False := eq_false (by omega)
 have hmb : ((m : Int) < (b : Int)) = True := eq_true (by omega)
 have ham : ((a : Int) < (m : Int)) = True := eq_true (by omega)
 have had : ((a : Int) < (mid : Int)) = True := eq_true (by omega)
 have ht2 := ht.2
 have ht1 := ht.1
 clear ht
 by_cases hc : mid < m
 ·have hc' : ((mid : Int) < (m : Int)) = True := eq_true (by omega)
  have hr := r1 hc
  have hws := dv (a := mid + m) (b := b) (by omega) (by omega)
  have hwe := dv (a := mid + m) (b := mid) (by omega) (by omega)
  rw [show mid + m - mid = m by omega] at hwe
  refine bi [] Tryz.func88 rfl Tryz.ntmps88 (Nat.le_of_ble_eq_true rfl) (Nat.le_of_ble_eq_true rfl) fun w0 G0 B0 Pr hB0 => ?_
  simp only [bu,bf,List.cons_append,List.nil_append]
  repeat' (first | (with_reducible refine hY _ ?_;clear hY Y) | ((with_reducible first | refine aX rfl (aR fun K' hK' => aa ?_) | refine hK' _ (ab fun Y hY => aa ?_) | refine aZ rfl (ab fun Y hY => aa ?_) | refine ab fun Y hY => aa ?_ | refine aR fun K' hK' => aa ?_ | refine ae tk0 ac (ab fun Y hY => aa ?_) | refine aa ?_ | refine aA ?_ | refine aT rfl (aq fun K' hK' => aa ?_) | refine hK' _ _ (ab fun Y hY => aa ?_) | refine aS rfl (ab fun Y hY => aa ?_) | refine aq fun K' hK' => aa ?_ | refine aK ?_);(try clear hK' K');(try dsimp only [aop]);try simp only [go_sem,↓reduceIte,Nat.reduceEqDiff,Nat.reduceLT,Nat.reduceLeDiff,Nat.reduceAdd,Nat.reduceSub,Nat.reduceMul,Nat.reduceBEq,Nat.reduceBNe,Nat.reducePow,Int.reduceToNat,Int.reduceLE,Int.reduceLT,Int.reduceMul,Int.reduceEq,Int.reducePow,Int.reduceAdd,Int.reduceSub,Int.reduceNeg,reduceCtorEq,ac,Tryz.results88,hw1,hn1,hw2,hn2,hwa,hwu,hsh,hwh,hwi,hwn,hc',hws,hp]) | (with_reducible first | refine av ?_ | refine an rfl ?_ | refine ap ?_ | refine ao ?_ | refine bk ?_ ?_ | refine aO ?_ | refine aN ?_ | refine bj fun K hK => ?_ | refine ay ?_ | refine az ?_ | refine aU ?_ | refine aQ ?_ | refine aC ?_ | refine aD ?_ | refine aF ?_ | refine aj ?_ | refine ax ?_ | refine aP ?_ | refine aE ?_ | refine aB ?_ | refine ag ?_ | refine af ?_ | refine al ?_ | refine bl fun K hK => ?_) | (with_reducible refine hK _ ?_;clear hK K) | (with_reducible refine hK _ _ ?_ ?_;(· kernel_rfl);clear hK K) | ((with_reducible first | refine aJ ?_ ?_ | refine ai ?_ ?_ | refine aG ?_ ?_);(· decide)) | (with_reducible refine ak tk0 ac ?_ ?_;(· kernel_rfl)) | ((with_reducible first | refine am (fun hc => ?_) (fun hc => ?_) | refine aH (fun hc => ?_) (fun hc => ?_)) <;> (try simp only [decide_eq_true_eq,decide_eq_false_iff_not,Bool.not_true,Bool.not_false,Bool.not_eq_true',Bool.not_eq_false'] at hc) <;> (try (exfalso;omega))) | (with_reducible refine aY ?_ ?_;(· (try and_intros) <;> first | omega | assumption | (simp only [List.length_append,List.length_map,List.length_cons,List.length_nil] <;> omega))) | (with_reducible refine aI ?_) | fail)
  refine cq (α := Nat) (fun s => [(0,.sl (bx t) t.length .none),(1,inA (a : Int)),(2,inA (m : Int)),(3,inA (b : Int)),(4,fA),(18,inA (mid : Int)),(19,inA ((mid + m : Nat) : Int)),(20,inA (s : Int)),(21,inA (mid : Int)),(22,inA ((mid + m - 1 : Nat) : Int))]) (fun s => mid + m - b ≤ s ∧ s ≤ mid) (fun s => mid - s) (mid + m - b) [0,1,2,3,4,18,19,20,21,22] ?_ ⟨Nat.le_refl _,by omega⟩ ?_
  ·simp only [go_sem,↓reduceIte,Nat.reduceEqDiff,Nat.reduceLT,Nat.reduceLeDiff,Nat.reduceAdd,Nat.reduceSub,Nat.reduceMul,Nat.reduceBEq,Nat.reduceBNe,Nat.reducePow,Int.reduceToNat,Int.reduceLE,Int.reduceLT,Int.reduceMul,Int.reduceEq,Int.reducePow,Int.reduceAdd,Int.reduceSub,Int.reduceNeg,reduceCtorEq] <;> rfl
  rintro s ⟨hs1,hs2⟩ ih
  by_cases hlt : s < mid
  ·have hlt' : ((s : Int) < (mid : Int)) = True := eq_true (by omega)
   have hwa2 := dD (a := s) (b := mid) (by omega)
   have hwu2 := dE (n := s + mid) (by omega)
   obtain ⟨c,hcc⟩ : ∃ c,c = (s + mid) / 2 := ⟨_,rfl⟩
   obtain ⟨e,hee⟩ : ∃ e,e = mid + m - 1 - c := ⟨_,rfl⟩
   have hsh2 : ((s + mid : Nat) : Int).fdiv 2 = (c : Int) := io hcc
   have hwh2 := dE (n := c) (by omega)
   have hwi2 := gR (n := c) (by omega)
   have hwk := cR (n := c) (by omega)
   have hwp := dv (a := mid + m - 1) (b := c) (by omega) (by omega)
   rw [← hee] at hwp
   have hgc := dV (M := t) (i := c) (by omega)
   have hge := dV (M := t) (i := e) (by omega)
   have hcl : ((c : Int) < (t.length : Int)) = True := eq_true (by omega)
   have hel : ((e : Int) < (t.length : Int)) = True := eq_true (by omega)
   have hk := kj t[e] t[c] (ht2 _ _) (ht2 _ _)
   have hlt2 : (t[e].1 - t[c].1 < 0) = False := eq_false (by have := ht1 c e (by omega) (by omega) (by omega);omega)
   have ih' := ih (c + 1) ⟨by omega,by omega⟩ (by omega)
   clear ih ht1 ht2 r1 r2 hr
   generalize t[c] = p at *
   generalize t[e] = q at *
   repeat' (first | (with_reducible refine hY _ ?_;clear hY Y) | ((with_reducible first | refine aX rfl (aR fun K' hK' => aa ?_) | refine hK' _ (ab fun Y hY => aa ?_) | refine aZ rfl (ab fun Y hY => aa ?_) | refine ab fun Y hY => aa ?_ | refine aR fun K' hK' => aa ?_ | refine ae tk0 ac (ab fun Y hY => aa ?_) | refine aa ?_ | refine aA ?_ | refine aT rfl (aq fun K' hK' => aa ?_) | refine hK' _ _ (ab fun Y hY => aa ?_) | refine aS rfl (ab fun Y hY => aa ?_) | refine aq fun K' hK' => aa ?_ | refine aK ?_);(try clear hK' K');(try dsimp only [aop]);try simp only [go_sem,↓reduceIte,Nat.reduceEqDiff,Nat.reduceLT,Nat.reduceLeDiff,Nat.reduceAdd,Nat.reduceSub,Nat.reduceMul,Nat.reduceBEq,Nat.reduceBNe,Nat.reducePow,Int.reduceToNat,Int.reduceLE,Int.reduceLT,Int.reduceMul,Int.reduceEq,Int.reducePow,Int.reduceAdd,Int.reduceSub,Int.reduceNeg,reduceCtorEq,ac,Tryz.results88,hlt',hwa2,hwu2,hsh2,hwh2,hwi2,hwk,hwp,hgc,hge,hfl,hF,hlt2,hcl,hel]) | (with_reducible first | refine av ?_ | refine an rfl ?_ | refine ap ?_ | refine ao ?_ | refine bk ?_ ?_ | refine aO ?_ | refine aN ?_ | refine bj fun K hK => ?_ | refine ay ?_ | refine az ?_ | refine aU ?_ | refine aQ ?_ | refine aC ?_ | refine aD ?_ | refine aF ?_ | refine aj ?_ | refine ax ?_ | refine aP ?_ | refine aE ?_ | refine aB ?_ | refine ag ?_ | refine af ?_ | refine al ?_ | refine bl fun K hK => ?_) | (with_reducible refine hK _ ?_;clear hK K) | (with_reducible refine hK _ _ ?_ ?_;(· kernel_rfl);clear hK K) | ((with_reducible first | refine aJ ?_ ?_ | refine ai ?_ ?_ | refine aG ?_ ?_);(· decide)) | (with_reducible refine ak tk0 ac ?_ ?_;(· kernel_rfl)) | ((with_reducible first | refine am (fun hc => ?_) (fun hc => ?_) | refine aH (fun hc => ?_) (fun hc => ?_)) <;> (try simp only [decide_eq_true_eq,decide_eq_false_iff_not,Bool.not_true,Bool.not_false,Bool.not_eq_true',Bool.not_eq_false'] at hc) <;> (try (exfalso;omega))) | (with_reducible refine aY ?_ ?_;(· (try and_intros) <;> first | omega | assumption | (simp only [List.length_append,List.length_map,List.length_cons,List.length_nil] <;> omega))) | (with_reducible refine au (hk) ?_) | (with_reducible refine aI ?_) | fail)
   refine bJ [0,1,2,3,4,18,19,20,21,22] (by simp only [go_sem,↓reduceIte,Nat.reduceEqDiff,Nat.reduceLT,Nat.reduceLeDiff,Nat.reduceAdd,Nat.reduceSub,Nat.reduceMul,Nat.reduceBEq,Nat.reduceBNe,Nat.reducePow,Int.reduceToNat,Int.reduceLE,Int.reduceLT,Int.reduceMul,Int.reduceEq,Int.reducePow,Int.reduceAdd,Int.reduceSub,Int.reduceNeg,reduceCtorEq];exact rfl) ?_
   exact ih'
  ·have hlt' : ((s : Int) < (mid : Int)) = False := eq_false (by omega)
   obtain rfl : s = mid := by omega
   clear ih ht1 ht2 r1 r2
   repeat' (first | (with_reducible refine hY _ ?_;clear hY Y) | ((with_reducible first | refine aX rfl (aR fun K' hK' => aa ?_) | refine hK' _ (ab fun Y hY => aa ?_) | refine aZ rfl (ab fun Y hY => aa ?_) | refine ab fun Y hY => aa ?_ | refine aR fun K' hK' => aa ?_ | refine ae tk0 ac (ab fun Y hY => aa ?_) | refine aa ?_ | refine aA ?_ | refine aT rfl (aq fun K' hK' => aa ?_) | refine hK' _ _ (ab fun Y hY => aa ?_) | refine aS rfl (ab fun Y hY => aa ?_) | refine aq fun K' hK' => aa ?_ | refine aK ?_);(try clear hK' K');(try dsimp only [aop]);try simp only [go_sem,↓reduceIte,Nat.reduceEqDiff,Nat.reduceLT,Nat.reduceLeDiff,Nat.reduceAdd,Nat.reduceSub,Nat.reduceMul,Nat.reduceBEq,Nat.reduceBNe,Nat.reducePow,Int.reduceToNat,Int.reduceLE,Int.reduceLT,Int.reduceMul,Int.reduceEq,Int.reducePow,Int.reduceAdd,Int.reduceSub,Int.reduceNeg,reduceCtorEq,ac,Tryz.results88,hlt',hwe,hc',hmm,had,hdd,hmb]) | (with_reducible first | refine av ?_ | refine an rfl ?_ | refine ap ?_ | refine ao ?_ | refine bk ?_ ?_ | refine aO ?_ | refine aN ?_ | refine bj fun K hK => ?_ | refine ay ?_ | refine az ?_ | refine aU ?_ | refine aQ ?_ | refine aC ?_ | refine aD ?_ | refine aF ?_ | refine aj ?_ | refine ax ?_ | refine aP ?_ | refine aE ?_ | refine aB ?_ | refine ag ?_ | refine af ?_ | refine al ?_ | refine bl fun K hK => ?_) | (with_reducible refine hK _ ?_;clear hK K) | (with_reducible refine hK _ _ ?_ ?_;(· kernel_rfl);clear hK K) | ((with_reducible first | refine aJ ?_ ?_ | refine ai ?_ ?_ | refine aG ?_ ?_);(· decide)) | (with_reducible refine ak tk0 ac ?_ ?_;(· kernel_rfl)) | ((with_reducible first | refine am (fun hc => ?_) (fun hc => ?_) | refine aH (fun hc => ?_) (fun hc => ?_)) <;> (try simp only [decide_eq_true_eq,decide_eq_false_iff_not,Bool.not_true,Bool.not_false,Bool.not_eq_true',Bool.not_eq_false'] at hc) <;> (try (exfalso;omega))) | (with_reducible refine aY ?_ ?_;(· (try and_intros) <;> first | omega | assumption | (simp only [List.length_append,List.length_map,List.length_cons,List.length_nil] <;> omega))) | (with_reducible refine au (hr) ?_) | (with_reducible refine aI ?_) | fail)
 ·have hc' : ((mid : Int) < (m : Int)) = False := eq_false (by omega)
  have hwe := dv (a := mid + m) (b := m) (by omega) (by omega)
  rw [show mid + m - m = mid by omega] at hwe
  refine bi [] Tryz.func88 rfl Tryz.ntmps88 (Nat.le_of_ble_eq_true rfl) (Nat.le_of_ble_eq_true rfl) fun w0 G0 B0 Pr hB0 => ?_
  simp only [bu,bf,List.cons_append,List.nil_append]
  repeat' (first | (with_reducible refine hY _ ?_;clear hY Y) | ((with_reducible first | refine aX rfl (aR fun K' hK' => aa ?_) | refine hK' _ (ab fun Y hY => aa ?_) | refine aZ rfl (ab fun Y hY => aa ?_) | refine ab fun Y hY => aa ?_ | refine aR fun K' hK' => aa ?_ | refine ae tk0 ac (ab fun Y hY => aa ?_) | refine aa ?_ | refine aA ?_ | refine aT rfl (aq fun K' hK' => aa ?_) | refine hK' _ _ (ab fun Y hY => aa ?_) | refine aS rfl (ab fun Y hY => aa ?_) | refine aq fun K' hK' => aa ?_ | refine aK ?_);(try clear hK' K');(try dsimp only [aop]);try simp only [go_sem,↓reduceIte,Nat.reduceEqDiff,Nat.reduceLT,Nat.reduceLeDiff,Nat.reduceAdd,Nat.reduceSub,Nat.reduceMul,Nat.reduceBEq,Nat.reduceBNe,Nat.reducePow,Int.reduceToNat,Int.reduceLE,Int.reduceLT,Int.reduceMul,Int.reduceEq,Int.reducePow,Int.reduceAdd,Int.reduceSub,Int.reduceNeg,reduceCtorEq,ac,Tryz.results88,hw1,hn1,hw2,hn2,hwa,hwu,hsh,hwh,hwi,hwn,hc',hp]) | (with_reducible first | refine av ?_ | refine an rfl ?_ | refine ap ?_ | refine ao ?_ | refine bk ?_ ?_ | refine aO ?_ | refine aN ?_ | refine bj fun K hK => ?_ | refine ay ?_ | refine az ?_ | refine aU ?_ | refine aQ ?_ | refine aC ?_ | refine aD ?_ | refine aF ?_ | refine aj ?_ | refine ax ?_ | refine aP ?_ | refine aE ?_ | refine aB ?_ | refine ag ?_ | refine af ?_ | refine al ?_ | refine bl fun K hK => ?_) | (with_reducible refine hK _ ?_;clear hK K) | (with_reducible refine hK _ _ ?_ ?_;(· kernel_rfl);clear hK K) | ((with_reducible first | refine aJ ?_ ?_ | refine ai ?_ ?_ | refine aG ?_ ?_);(· decide)) | (with_reducible refine ak tk0 ac ?_ ?_;(· kernel_rfl)) | ((with_reducible first | refine am (fun hc => ?_) (fun hc => ?_) | refine aH (fun hc => ?_) (fun hc => ?_)) <;> (try simp only [decide_eq_true_eq,decide_eq_false_iff_not,Bool.not_true,Bool.not_false,Bool.not_eq_true',Bool.not_eq_false'] at hc) <;> (try (exfalso;omega))) | (with_reducible refine aY ?_ ?_;(· (try and_intros) <;> first | omega | assumption | (simp only [List.length_append,List.length_map,List.length_cons,List.length_nil] <;> omega))) | (with_reducible refine aI ?_) | fail)
  refine cq (α := Nat) (fun s => [(0,.sl (bx t) t.length .none),(1,inA (a : Int)),(2,inA (m : Int)),(3,inA (b : Int)),(4,fA),(18,inA (mid : Int)),(19,inA ((mid + m : Nat) : Int)),(20,inA (s : Int)),(21,inA (m : Int)),(22,inA ((mid + m - 1 : Nat) : Int))]) (fun s => a ≤ s ∧ s ≤ m) (fun s => m - s) a [0,1,2,3,4,18,19,20,21,22] ?_ ⟨Nat.le_refl _,by omega⟩ ?_
  ·simp only [go_sem,↓reduceIte,Nat.reduceEqDiff,Nat.reduceLT,Nat.reduceLeDiff,Nat.reduceAdd,Nat.reduceSub,Nat.reduceMul,Nat.reduceBEq,Nat.reduceBNe,Nat.reducePow,Int.reduceToNat,Int.reduceLE,Int.reduceLT,Int.reduceMul,Int.reduceEq,Int.reducePow,Int.reduceAdd,Int.reduceSub,Int.reduceNeg,reduceCtorEq] <;> rfl
  rintro s ⟨hs1,hs2⟩ ih
  by_cases hlt : s < m
  ·have hlt' : ((s : Int) < (m : Int)) = True := eq_true (by omega)
   have hwa2 := dD (a := s) (b := m) (by omega)
   have hwu2 := dE (n := s + m) (by omega)
   obtain ⟨c,hcc⟩ : ∃ c,c = (s + m) / 2 := ⟨_,rfl⟩
   obtain ⟨e,hee⟩ : ∃ e,e = mid + m - 1 - c := ⟨_,rfl⟩
   have hsh2 : ((s + m : Nat) : Int).fdiv 2 = (c : Int) := io hcc
   have hwh2 := dE (n := c) (by omega)
   have hwi2 := gR (n := c) (by omega)
   have hwk := cR (n := c) (by omega)
   have hwp := dv (a := mid + m - 1) (b := c) (by omega) (by omega)
   rw [← hee] at hwp
   have hgc := dV (M := t) (i := c) (by omega)
   have hge := dV (M := t) (i := e) (by omega)
   have hcl : ((c : Int) < (t.length : Int)) = True := eq_true (by omega)
   have hel : ((e : Int) < (t.length : Int)) = True := eq_true (by omega)
   have hk := kj t[e] t[c] (ht2 _ _) (ht2 _ _)
   have hlt2 : (t[e].1 - t[c].1 < 0) = False := eq_false (by have := ht1 c e (by omega) (by omega) (by omega);omega)
   have ih' := ih (c + 1) ⟨by omega,by omega⟩ (by omega)
   clear ih ht1 ht2 r1 r2
   generalize t[c] = p at *
   generalize t[e] = q at *
   repeat' (first | (with_reducible refine hY _ ?_;clear hY Y) | ((with_reducible first | refine aX rfl (aR fun K' hK' => aa ?_) | refine hK' _ (ab fun Y hY => aa ?_) | refine aZ rfl (ab fun Y hY => aa ?_) | refine ab fun Y hY => aa ?_ | refine aR fun K' hK' => aa ?_ | refine ae tk0 ac (ab fun Y hY => aa ?_) | refine aa ?_ | refine aA ?_ | refine aT rfl (aq fun K' hK' => aa ?_) | refine hK' _ _ (ab fun Y hY => aa ?_) | refine aS rfl (ab fun Y hY => aa ?_) | refine aq fun K' hK' => aa ?_ | refine aK ?_);(try clear hK' K');(try dsimp only [aop]);try simp only [go_sem,↓reduceIte,Nat.reduceEqDiff,Nat.reduceLT,Nat.reduceLeDiff,Nat.reduceAdd,Nat.reduceSub,Nat.reduceMul,Nat.reduceBEq,Nat.reduceBNe,Nat.reducePow,Int.reduceToNat,Int.reduceLE,Int.reduceLT,Int.reduceMul,Int.reduceEq,Int.reducePow,Int.reduceAdd,Int.reduceSub,Int.reduceNeg,reduceCtorEq,ac,Tryz.results88,hlt',hwa2,hwu2,hsh2,hwh2,hwi2,hwk,hwp,hgc,hge,hfl,hF,hlt2,hcl,hel]) | (with_reducible first | refine av ?_ | refine an rfl ?_ | refine ap ?_ | refine ao ?_ | refine bk ?_ ?_ | refine aO ?_ | refine aN ?_ | refine bj fun K hK => ?_ | refine ay ?_ | refine az ?_ | refine aU ?_ | refine aQ ?_ | refine aC ?_ | refine aD ?_ | refine aF ?_ | refine aj ?_ | refine ax ?_ | refine aP ?_ | refine aE ?_ | refine aB ?_ | refine ag ?_ | refine af ?_ | refine al ?_ | refine bl fun K hK => ?_) | (with_reducible refine hK _ ?_;clear hK K) | (with_reducible refine hK _ _ ?_ ?_;(· kernel_rfl);clear hK K) | ((with_reducible first | refine aJ ?_ ?_ | refine ai ?_ ?_ | refine aG ?_ ?_);(· decide)) | (with_reducible refine ak tk0 ac ?_ ?_;(· kernel_rfl)) | ((with_reducible first | refine am (fun hc => ?_) (fun hc => ?_) | refine aH (fun hc => ?_) (fun hc => ?_)) <;> (try simp only [decide_eq_true_eq,decide_eq_false_iff_not,Bool.not_true,Bool.not_false,Bool.not_eq_true',Bool.not_eq_false'] at hc) <;> (try (exfalso;omega))) | (with_reducible refine aY ?_ ?_;(· (try and_intros) <;> first | omega | assumption | (simp only [List.length_append,List.length_map,List.length_cons,List.length_nil] <;> omega))) | (with_reducible refine au (hk) ?_) | (with_reducible refine aI ?_) | fail)
   refine bJ [0,1,2,3,4,18,19,20,21,22] (by simp only [go_sem,↓reduceIte,Nat.reduceEqDiff,Nat.reduceLT,Nat.reduceLeDiff,Nat.reduceAdd,Nat.reduceSub,Nat.reduceMul,Nat.reduceBEq,Nat.reduceBNe,Nat.reducePow,Int.reduceToNat,Int.reduceLE,Int.reduceLT,Int.reduceMul,Int.reduceEq,Int.reducePow,Int.reduceAdd,Int.reduceSub,Int.reduceNeg,reduceCtorEq];exact rfl) ?_
   exact ih'
  ·have hlt' : ((s : Int) < (m : Int)) = False := eq_false (by omega)
   obtain rfl : s = m := by omega
   clear ih ht1 ht2 r1
   by_cases hq : s < mid
   ·have hq' : ((s : Int) < (mid : Int)) = True := eq_true (by omega)
    have hr := r2 hq
    repeat' (first | (with_reducible refine hY _ ?_;clear hY Y) | ((with_reducible first | refine aX rfl (aR fun K' hK' => aa ?_) | refine hK' _ (ab fun Y hY => aa ?_) | refine aZ rfl (ab fun Y hY => aa ?_) | refine ab fun Y hY => aa ?_ | refine aR fun K' hK' => aa ?_ | refine ae tk0 ac (ab fun Y hY => aa ?_) | refine aa ?_ | refine aA ?_ | refine aT rfl (aq fun K' hK' => aa ?_) | refine hK' _ _ (ab fun Y hY => aa ?_) | refine aS rfl (ab fun Y hY => aa ?_) | refine aq fun K' hK' => aa ?_ | refine aK ?_);(try clear hK' K');(try dsimp only [aop]);try simp only [go_sem,↓reduceIte,Nat.reduceEqDiff,Nat.reduceLT,Nat.reduceLeDiff,Nat.reduceAdd,Nat.reduceSub,Nat.reduceMul,Nat.reduceBEq,Nat.reduceBNe,Nat.reducePow,Int.reduceToNat,Int.reduceLE,Int.reduceLT,Int.reduceMul,Int.reduceEq,Int.reducePow,Int.reduceAdd,Int.reduceSub,Int.reduceNeg,reduceCtorEq,ac,Tryz.results88,hlt',hwe,hmm,ham,hq',hdd]) | (with_reducible first | refine av ?_ | refine an rfl ?_ | refine ap ?_ | refine ao ?_ | refine bk ?_ ?_ | refine aO ?_ | refine aN ?_ | refine bj fun K hK => ?_ | refine ay ?_ | refine az ?_ | refine aU ?_ | refine aQ ?_ | refine aC ?_ | refine aD ?_ | refine aF ?_ | refine aj ?_ | refine ax ?_ | refine aP ?_ | refine aE ?_ | refine aB ?_ | refine ag ?_ | refine af ?_ | refine al ?_ | refine bl fun K hK => ?_) | (with_reducible refine hK _ ?_;clear hK K) | (with_reducible refine hK _ _ ?_ ?_;(· kernel_rfl);clear hK K) | ((with_reducible first | refine aJ ?_ ?_ | refine ai ?_ ?_ | refine aG ?_ ?_);(· decide)) | (with_reducible refine ak tk0 ac ?_ ?_;(· kernel_rfl)) | ((with_reducible first | refine am (fun hc => ?_) (fun hc => ?_) | refine aH (fun hc => ?_) (fun hc => ?_)) <;> (try simp only [decide_eq_true_eq,decide_eq_false_iff_not,Bool.not_true,Bool.not_false,Bool.not_eq_true',Bool.not_eq_false'] at hc) <;> (try (exfalso;omega))) | (with_reducible refine aY ?_ ?_;(· (try and_intros) <;> first | omega | assumption | (simp only [List.length_append,List.length_map,List.length_cons,List.length_nil] <;> omega))) | (with_reducible refine au (hr) ?_) | (with_reducible refine aI ?_) | fail)
   ·have hq' : ((s : Int) < (mid : Int)) = False := eq_false (by omega)
    clear r2
    repeat' (first | (with_reducible refine hY _ ?_;clear hY Y) | ((with_reducible first | refine aX rfl (aR fun K' hK' => aa ?_) | refine hK' _ (ab fun Y hY => aa ?_) | refine aZ rfl (ab fun Y hY => aa ?_) | refine ab fun Y hY => aa ?_ | refine aR fun K' hK' => aa ?_ | refine ae tk0 ac (ab fun Y hY => aa ?_) | refine aa ?_ | refine aA ?_ | refine aT rfl (aq fun K' hK' => aa ?_) | refine hK' _ _ (ab fun Y hY => aa ?_) | refine aS rfl (ab fun Y hY => aa ?_) | refine aq fun K' hK' => aa ?_ | refine aK ?_);(try clear hK' K');(try dsimp only [aop]);try simp only [go_sem,↓reduceIte,Nat.reduceEqDiff,Nat.reduceLT,Nat.reduceLeDiff,Nat.reduceAdd,Nat.reduceSub,Nat.reduceMul,Nat.reduceBEq,Nat.reduceBNe,Nat.reducePow,Int.reduceToNat,Int.reduceLE,Int.reduceLT,Int.reduceMul,Int.reduceEq,Int.reducePow,Int.reduceAdd,Int.reduceSub,Int.reduceNeg,reduceCtorEq,ac,Tryz.results88,hlt',hwe,hmm,ham,hq',hdd]) | (with_reducible first | refine av ?_ | refine an rfl ?_ | refine ap ?_ | refine ao ?_ | refine bk ?_ ?_ | refine aO ?_ | refine aN ?_ | refine bj fun K hK => ?_ | refine ay ?_ | refine az ?_ | refine aU ?_ | refine aQ ?_ | refine aC ?_ | refine aD ?_ | refine aF ?_ | refine aj ?_ | refine ax ?_ | refine aP ?_ | refine aE ?_ | refine aB ?_ | refine ag ?_ | refine af ?_ | refine al ?_ | refine bl fun K hK => ?_) | (with_reducible refine hK _ ?_;clear hK K) | (with_reducible refine hK _ _ ?_ ?_;(· kernel_rfl);clear hK K) | ((with_reducible first | refine aJ ?_ ?_ | refine ai ?_ ?_ | refine aG ?_ ?_);(· decide)) | (with_reducible refine ak tk0 ac ?_ ?_;(· kernel_rfl)) | ((with_reducible first | refine am (fun hc => ?_) (fun hc => ?_) | refine aH (fun hc => ?_) (fun hc => ?_)) <;> (try simp only [decide_eq_true_eq,decide_eq_false_iff_not,Bool.not_true,Bool.not_false,Bool.not_eq_true',Bool.not_eq_false'] at hc) <;> (try (exfalso;omega))) | (with_reducible refine aY ?_ ?_;(· (try and_intros) <;> first | omega | assumption | (simp only [List.length_append,List.length_map,List.length_cons,List.length_nil] <;> omega))) | (with_reducible refine aI ?_) | fail)
theorem rg (t : List Tm) (ht : js t) (hl : t.length ≤ 1000000) : ∀ (d a m b : Nat),b - a = d → a < m → m < b → b ≤ t.length → AFn Tryz.prog 88 [.sl (bx t) t.length .none,inA (a : Int),inA (m : Int),inA (b : Int),fA] [] (.tup []) [] := by
 intro d
 induction d using Nat.strongRecOn with
 | _ d IH =>
 intro a m b hd ham hmb hb
 by_cases h1 : m = a + 1
 ·exact rb t ht hl a m b h1 hmb hb
 by_cases h2 : b = m + 1
 ·exact rc t ht hl a m b h1 ham h2 hb
 exact re t ht hl a m b ((a + b) / 2) rfl (by omega) (by omega) hb
  (fun h => IH _ (by omega) ((a + b) / 2) m b rfl h hmb hb)
  (fun h => IH _ (by omega) a m ((a + b) / 2) rfl ham h (by omega))
end Go.Proofs.YtiiaokjgbjhfhaaGreatDoor
