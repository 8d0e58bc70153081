/- Clauses in K: slices.Grow, slices.Concat, ContainsFunc of rows of numbers; prop.Check of sound clauses. -/
import Derived.Test.YtiiaokjgbjhfhaaGreatDoorZ18
import Derived.Test.YtiiaokjgbjhfhaaGreatDoorZ20
import Derived.Test.YtiiaokjgbjhfhaaGreatDoorZ26
import Derived.Shelf.Spec.SlicesGrow
namespace Go.Proofs.YtiiaokjgbjhfhaaGreatDoor
set_option linter.unusedSimpArgs false
set_option linter.unusedVariables false
open Go.RowKit
abbrev gD (c : List Int) : AV := .sl (c.map inA) c.length .none
abbrev csA (cs : List (List Int)) : AV := .sl (cs.map gD) cs.length .none
theorem m7 {cs : List (List Int)} {k : Nat} (h : k < cs.length) : (cs.map gD).getD k .u = gD cs[k] := by simp [List.getD_eq_getElem?_getD,h]
theorem qQ {c : List Int} {k : Nat} (h : k < c.length) : (c.map inA).getD k .u = inA c[k] := by simp [List.getD_eq_getElem?_getD,h]
def bB : Nat → List Nat
 | 0 => [0,1]
 | 1 => [0,1]
 | 2 => [0,1,7,8]
 | 3 => [0,1,7,8]
 | 4 => [0,1,5,7,8]
 | 5 => [5]
 | 6 => [0,1,7,8]
 | 7 => []
 | _ => []
def cK : Nat → List Nat
 | 0 => [0,1]
 | 1 => [0,1]
 | _ => []
set_option maxRecDepth 100000 in
set_option maxHeartbeats 8000000 in
theorem qb (l : List Int) (F : Nat) (n : Int) (p : Int → Bool) (hF : ba Tryz.prog F = true) (hl : Lg l) (h : ∀ y ∈ l,AFn Tryz.prog F [inA y,.loc 20000 0] [.bc [inA n] 3] (.c (.bool (p y))) [.bc [inA n] 3]) :
  AFn Tryz.prog 34 [.sl (l.map inA) l.length .none,.fn (.func F) [] [.loc 20000 0]] [.bc [inA n] 3] (inA (fiP p l)) [.bc [inA n] 3] := by
 unfold Lg at hl
 refine bi [] Tryz.func34 rfl Tryz.ntmps34 (Nat.le_of_ble_eq_true rfl) (Nat.le_of_ble_eq_true rfl) fun w0 G0 B0 Pr hB0 => ?_
 simp only [bu,bf,List.cons_append,List.nil_append]
 repeat' (first | (with_reducible refine hY _ ?_;clear hY Y) | ((with_reducible first | refine aX rfl (aR fun K' hK' => aa ?_) | refine hK' _ (ab fun Y hY => aa ?_) | refine aZ rfl (ab fun Y hY => aa ?_) | refine ab fun Y hY => aa ?_ | refine aR fun K' hK' => aa ?_ | refine ae tk0 bB (ab fun Y hY => aa ?_) | refine aa ?_ | refine aA ?_ | refine aT rfl (aq fun K' hK' => aa ?_) | refine hK' _ _ (ab fun Y hY => aa ?_) | refine aS rfl (ab fun Y hY => aa ?_) | refine aq fun K' hK' => aa ?_ | refine aK ?_);(try clear hK' K');(try dsimp only [aop]);try simp only [go_sem,↓reduceIte,Nat.reduceEqDiff,Nat.reduceLT,Nat.reduceLeDiff,Nat.reduceAdd,Nat.reduceSub,Nat.reduceMul,Nat.reduceBEq,Nat.reduceBNe,Nat.reducePow,Int.reduceToNat,Int.reduceLE,Int.reduceLT,Int.reduceMul,Int.reduceEq,Int.reducePow,Int.reduceAdd,Int.reduceSub,Int.reduceNeg,reduceCtorEq,bB,Tryz.results34]) | (with_reducible first | refine av ?_ | refine an rfl ?_ | refine ap ?_ | refine ao ?_ | refine bk ?_ ?_ | refine aO ?_ | refine aN ?_ | refine bj fun K hK => ?_ | refine ay ?_ | refine az ?_ | refine aU ?_ | refine aQ ?_ | refine aC ?_ | refine aD ?_ | refine aF ?_ | refine aj ?_ | refine ax ?_ | refine aP ?_ | refine aE ?_ | refine aB ?_ | refine ag ?_ | refine af ?_ | refine al ?_ | refine bl fun K hK => ?_) | (with_reducible refine hK _ ?_;clear hK K) | (with_reducible refine hK _ _ ?_ ?_;(· kernel_rfl);clear hK K) | ((with_reducible first | refine aJ ?_ ?_ | refine ai ?_ ?_ | refine aG ?_ ?_);(· decide)) | (with_reducible refine ak tk0 bB ?_ ?_;(· kernel_rfl)) | ((with_reducible first | refine am (fun hc => ?_) (fun hc => ?_) | refine aH (fun hc => ?_) (fun hc => ?_)) <;> (try simp only [decide_eq_true_eq,decide_eq_false_iff_not,Bool.not_true,Bool.not_false,Bool.not_eq_true',Bool.not_eq_false'] at hc) <;> (try (exfalso;omega))) | (with_reducible refine aY ?_ ?_;(· (try and_intros) <;> first | omega | assumption | (simp only [List.length_append,List.length_map,List.length_cons,List.length_nil] <;> omega))) | (with_reducible refine aI ?_) | fail)
 refine cq (α := Nat) (fun k => [(0,.sl (l.map inA) l.length .none),(1,.fn (.func F) [] [.loc 20000 0]),(7,inA (l.length : Int)),(8,inA (k : Int)),(20000,.bc [inA n] 3)])
  (fun k => k ≤ l.length ∧ ∀ j (hj : j < l.length),j < k → p l[j] = false) (fun k => l.length - k) 0 [0,1,7,8] ?_ ⟨Nat.zero_le _,fun j _ hj => absurd hj (Nat.not_lt_zero _)⟩ ?_
 ·simp only [go_sem,↓reduceIte,Nat.reduceEqDiff,Nat.reduceLT,Nat.reduceLeDiff,Nat.reduceAdd,Nat.reduceSub,Nat.reduceMul,Nat.reduceBEq,Nat.reduceBNe,Nat.reducePow,Int.reduceToNat,Int.reduceLE,Int.reduceLT,Int.reduceMul,Int.reduceEq,Int.reducePow,Int.reduceAdd,Int.reduceSub,Int.reduceNeg,reduceCtorEq] <;> rfl
 rintro k ⟨hk,hall⟩ ih
 by_cases hlt : k < l.length
 ·have hlt' : ((k : Int) < (l.length : Int)) = True := eq_true (by omega)
  have hkw := cR (n := k) (by omega)
  have h1 := h l[k] (List.getElem_mem hlt)
  have hg0 := qQ hlt
  have hfl : (l.map inA).length = l.length := List.length_map ..
  have hfi := lN (p := p) hlt hall
  have hnx : p l[k] = false → ∀ j (hj : j < l.length),j < k + 1 → p l[j] = false := fun e j hj hjk => by
   by_cases hj2 : j < k
   ·exact hall j hj hj2
   ·have : j = k := by omega
    subst this;exact e
  generalize l[k] = t at *
  generalize hp : p t = b at *
  cases b with
  | true =>
   rw [hfi rfl]
   clear ih hfi hnx hall h
   repeat' (first | (with_reducible refine hY _ ?_;clear hY Y) | ((with_reducible first | refine aX rfl (aR fun K' hK' => aa ?_) | refine hK' _ (ab fun Y hY => aa ?_) | refine aZ rfl (ab fun Y hY => aa ?_) | refine ab fun Y hY => aa ?_ | refine aR fun K' hK' => aa ?_ | refine ae tk0 bB (ab fun Y hY => aa ?_) | refine aa ?_ | refine aA ?_ | refine aT rfl (aq fun K' hK' => aa ?_) | refine hK' _ _ (ab fun Y hY => aa ?_) | refine aS rfl (ab fun Y hY => aa ?_) | refine aq fun K' hK' => aa ?_ | refine aK ?_);(try clear hK' K');(try dsimp only [aop]);try simp only [go_sem,↓reduceIte,Nat.reduceEqDiff,Nat.reduceLT,Nat.reduceLeDiff,Nat.reduceAdd,Nat.reduceSub,Nat.reduceMul,Nat.reduceBEq,Nat.reduceBNe,Nat.reducePow,Int.reduceToNat,Int.reduceLE,Int.reduceLT,Int.reduceMul,Int.reduceEq,Int.reducePow,Int.reduceAdd,Int.reduceSub,Int.reduceNeg,reduceCtorEq,bB,Tryz.results34,hlt',hfl,hg0,hkw,hF]) | (with_reducible first | refine av ?_ | refine an rfl ?_ | refine ap ?_ | refine ao ?_ | refine bk ?_ ?_ | refine aO ?_ | refine aN ?_ | refine bj fun K hK => ?_ | refine ay ?_ | refine az ?_ | refine aU ?_ | refine aQ ?_ | refine aC ?_ | refine aD ?_ | refine aF ?_ | refine aj ?_ | refine ax ?_ | refine aP ?_ | refine aE ?_ | refine aB ?_ | refine ag ?_ | refine af ?_ | refine al ?_ | refine bl fun K hK => ?_) | (with_reducible refine hK _ ?_;clear hK K) | (with_reducible refine hK _ _ ?_ ?_;(· kernel_rfl);clear hK K) | ((with_reducible first | refine aJ ?_ ?_ | refine ai ?_ ?_ | refine aG ?_ ?_);(· decide)) | (with_reducible refine ak tk0 bB ?_ ?_;(· kernel_rfl)) | ((with_reducible first | refine am (fun hc => ?_) (fun hc => ?_) | refine aH (fun hc => ?_) (fun hc => ?_)) <;> (try simp only [decide_eq_true_eq,decide_eq_false_iff_not,Bool.not_true,Bool.not_false,Bool.not_eq_true',Bool.not_eq_false'] at hc) <;> (try (exfalso;omega))) | (with_reducible refine aY ?_ ?_;(· (try and_intros) <;> first | omega | assumption | (simp only [List.length_append,List.length_map,List.length_cons,List.length_nil] <;> omega))) | (with_reducible refine au (h1) ?_) | (with_reducible refine aI ?_) | fail)
  | false =>
   clear hfi
   repeat' (first | (with_reducible refine hY _ ?_;clear hY Y) | ((with_reducible first | refine aX rfl (aR fun K' hK' => aa ?_) | refine hK' _ (ab fun Y hY => aa ?_) | refine aZ rfl (ab fun Y hY => aa ?_) | refine ab fun Y hY => aa ?_ | refine aR fun K' hK' => aa ?_ | refine ae tk0 bB (ab fun Y hY => aa ?_) | refine aa ?_ | refine aA ?_ | refine aT rfl (aq fun K' hK' => aa ?_) | refine hK' _ _ (ab fun Y hY => aa ?_) | refine aS rfl (ab fun Y hY => aa ?_) | refine aq fun K' hK' => aa ?_ | refine aK ?_);(try clear hK' K');(try dsimp only [aop]);try simp only [go_sem,↓reduceIte,Nat.reduceEqDiff,Nat.reduceLT,Nat.reduceLeDiff,Nat.reduceAdd,Nat.reduceSub,Nat.reduceMul,Nat.reduceBEq,Nat.reduceBNe,Nat.reducePow,Int.reduceToNat,Int.reduceLE,Int.reduceLT,Int.reduceMul,Int.reduceEq,Int.reducePow,Int.reduceAdd,Int.reduceSub,Int.reduceNeg,reduceCtorEq,bB,Tryz.results34,hlt',hfl,hg0,hkw,hF]) | (with_reducible first | refine av ?_ | refine an rfl ?_ | refine ap ?_ | refine ao ?_ | refine bk ?_ ?_ | refine aO ?_ | refine aN ?_ | refine bj fun K hK => ?_ | refine ay ?_ | refine az ?_ | refine aU ?_ | refine aQ ?_ | refine aC ?_ | refine aD ?_ | refine aF ?_ | refine aj ?_ | refine ax ?_ | refine aP ?_ | refine aE ?_ | refine aB ?_ | refine ag ?_ | refine af ?_ | refine al ?_ | refine bl fun K hK => ?_) | (with_reducible refine hK _ ?_;clear hK K) | (with_reducible refine hK _ _ ?_ ?_;(· kernel_rfl);clear hK K) | ((with_reducible first | refine aJ ?_ ?_ | refine ai ?_ ?_ | refine aG ?_ ?_);(· decide)) | (with_reducible refine ak tk0 bB ?_ ?_;(· kernel_rfl)) | ((with_reducible first | refine am (fun hc => ?_) (fun hc => ?_) | refine aH (fun hc => ?_) (fun hc => ?_)) <;> (try simp only [decide_eq_true_eq,decide_eq_false_iff_not,Bool.not_true,Bool.not_false,Bool.not_eq_true',Bool.not_eq_false'] at hc) <;> (try (exfalso;omega))) | (with_reducible refine aY ?_ ?_;(· (try and_intros) <;> first | omega | assumption | (simp only [List.length_append,List.length_map,List.length_cons,List.length_nil] <;> omega))) | (with_reducible refine au (h1) ?_) | (with_reducible refine aI ?_) | fail)
   refine bJ [0,1,7,8] (by simp only [go_sem,↓reduceIte,Nat.reduceEqDiff,Nat.reduceLT,Nat.reduceLeDiff,Nat.reduceAdd,Nat.reduceSub,Nat.reduceMul,Nat.reduceBEq,Nat.reduceBNe,Nat.reducePow,Int.reduceToNat,Int.reduceLE,Int.reduceLT,Int.reduceMul,Int.reduceEq,Int.reducePow,Int.reduceAdd,Int.reduceSub,Int.reduceNeg,reduceCtorEq];exact rfl) ?_
   exact ih (k + 1) ⟨by omega,hnx rfl⟩ (by omega)
 ·have hlt' : ((k : Int) < (l.length : Int)) = False := eq_false (by omega)
  rw [lO fun j hj => hall j hj (by omega)]
  clear ih h hall
  repeat' (first | (with_reducible refine hY _ ?_;clear hY Y) | ((with_reducible first | refine aX rfl (aR fun K' hK' => aa ?_) | refine hK' _ (ab fun Y hY => aa ?_) | refine aZ rfl (ab fun Y hY => aa ?_) | refine ab fun Y hY => aa ?_ | refine aR fun K' hK' => aa ?_ | refine ae tk0 bB (ab fun Y hY => aa ?_) | refine aa ?_ | refine aA ?_ | refine aT rfl (aq fun K' hK' => aa ?_) | refine hK' _ _ (ab fun Y hY => aa ?_) | refine aS rfl (ab fun Y hY => aa ?_) | refine aq fun K' hK' => aa ?_ | refine aK ?_);(try clear hK' K');(try dsimp only [aop]);try simp only [go_sem,↓reduceIte,Nat.reduceEqDiff,Nat.reduceLT,Nat.reduceLeDiff,Nat.reduceAdd,Nat.reduceSub,Nat.reduceMul,Nat.reduceBEq,Nat.reduceBNe,Nat.reducePow,Int.reduceToNat,Int.reduceLE,Int.reduceLT,Int.reduceMul,Int.reduceEq,Int.reducePow,Int.reduceAdd,Int.reduceSub,Int.reduceNeg,reduceCtorEq,bB,Tryz.results34,hlt']) | (with_reducible first | refine av ?_ | refine an rfl ?_ | refine ap ?_ | refine ao ?_ | refine bk ?_ ?_ | refine aO ?_ | refine aN ?_ | refine bj fun K hK => ?_ | refine ay ?_ | refine az ?_ | refine aU ?_ | refine aQ ?_ | refine aC ?_ | refine aD ?_ | refine aF ?_ | refine aj ?_ | refine ax ?_ | refine aP ?_ | refine aE ?_ | refine aB ?_ | refine ag ?_ | refine af ?_ | refine al ?_ | refine bl fun K hK => ?_) | (with_reducible refine hK _ ?_;clear hK K) | (with_reducible refine hK _ _ ?_ ?_;(· kernel_rfl);clear hK K) | ((with_reducible first | refine aJ ?_ ?_ | refine ai ?_ ?_ | refine aG ?_ ?_);(· decide)) | (with_reducible refine ak tk0 bB ?_ ?_;(· kernel_rfl)) | ((with_reducible first | refine am (fun hc => ?_) (fun hc => ?_) | refine aH (fun hc => ?_) (fun hc => ?_)) <;> (try simp only [decide_eq_true_eq,decide_eq_false_iff_not,Bool.not_true,Bool.not_false,Bool.not_eq_true',Bool.not_eq_false'] at hc) <;> (try (exfalso;omega))) | (with_reducible refine aY ?_ ?_;(· (try and_intros) <;> first | omega | assumption | (simp only [List.length_append,List.length_map,List.length_cons,List.length_nil] <;> omega))) | (with_reducible refine aI ?_) | fail)
set_option maxRecDepth 100000 in
set_option maxHeartbeats 8000000 in
theorem k6 (l : List Int) (F : Nat) (n : Int) (p : Int → Bool) (hF : ba Tryz.prog F = true) (hl : Lg l) (h : ∀ y ∈ l,AFn Tryz.prog F [inA y,.loc 20000 0] [.bc [inA n] 3] (.c (.bool (p y))) [.bc [inA n] 3]) :
  AFn Tryz.prog 16 [.sl (l.map inA) l.length .none,.fn (.func F) [] [.loc 20000 0]] [.bc [inA n] 3] (.c (.bool (l.any p))) [.bc [inA n] 3] := by
 have h1 := qb l F n p hF hl h
 have h2 : decide (0 ≤ fiP p l) = l.any p := jC p l
 refine bi [] Tryz.func16 rfl Tryz.ntmps16 (Nat.le_of_ble_eq_true rfl) (Nat.le_of_ble_eq_true rfl) fun w0 G0 B0 Pr hB0 => ?_
 simp only [bu,bf,List.cons_append,List.nil_append]
 repeat' (first | (with_reducible refine hY _ ?_;clear hY Y) | ((with_reducible first | refine aX rfl (aR fun K' hK' => aa ?_) | refine hK' _ (ab fun Y hY => aa ?_) | refine aZ rfl (ab fun Y hY => aa ?_) | refine ab fun Y hY => aa ?_ | refine aR fun K' hK' => aa ?_ | refine ae tk0 cK (ab fun Y hY => aa ?_) | refine aa ?_ | refine aA ?_ | refine aT rfl (aq fun K' hK' => aa ?_) | refine hK' _ _ (ab fun Y hY => aa ?_) | refine aS rfl (ab fun Y hY => aa ?_) | refine aq fun K' hK' => aa ?_ | refine aK ?_);(try clear hK' K');(try dsimp only [aop]);try simp only [go_sem,↓reduceIte,Nat.reduceEqDiff,Nat.reduceLT,Nat.reduceLeDiff,Nat.reduceAdd,Nat.reduceSub,Nat.reduceMul,Nat.reduceBEq,Nat.reduceBNe,Nat.reducePow,Int.reduceToNat,Int.reduceLE,Int.reduceLT,Int.reduceMul,Int.reduceEq,Int.reducePow,Int.reduceAdd,Int.reduceSub,Int.reduceNeg,reduceCtorEq,cK,Tryz.results16,h2]) | (with_reducible first | refine av ?_ | refine an rfl ?_ | refine ap ?_ | refine ao ?_ | refine bk ?_ ?_ | refine aO ?_ | refine aN ?_ | refine bj fun K hK => ?_ | refine ay ?_ | refine az ?_ | refine aU ?_ | refine aQ ?_ | refine aC ?_ | refine aD ?_ | refine aF ?_ | refine aj ?_ | refine ax ?_ | refine aP ?_ | refine aE ?_ | refine aB ?_ | refine ag ?_ | refine af ?_ | refine al ?_ | refine bl fun K hK => ?_) | (with_reducible refine hK _ ?_;clear hK K) | (with_reducible refine hK _ _ ?_ ?_;(· kernel_rfl);clear hK K) | ((with_reducible first | refine aJ ?_ ?_ | refine ai ?_ ?_ | refine aG ?_ ?_);(· decide)) | (with_reducible refine ak tk0 cK ?_ ?_;(· kernel_rfl)) | ((with_reducible first | refine am (fun hc => ?_) (fun hc => ?_) | refine aH (fun hc => ?_) (fun hc => ?_)) <;> (try simp only [decide_eq_true_eq,decide_eq_false_iff_not,Bool.not_true,Bool.not_false,Bool.not_eq_true',Bool.not_eq_false'] at hc) <;> (try (exfalso;omega))) | (with_reducible refine aY ?_ ?_;(· (try and_intros) <;> first | omega | assumption | (simp only [List.length_append,List.length_map,List.length_cons,List.length_nil] <;> omega))) | (with_reducible refine au (h1) ?_) | (with_reducible refine aI ?_) | fail)
def bw : Nat → List Nat
 | 0 => [0,1]
 | 1 => [0,1]
 | 2 => [0,1,7,8]
 | 3 => [0,1,7,8]
 | 4 => [0,1,5,7,8]
 | 5 => [5]
 | 6 => [0,1,7,8]
 | 7 => []
 | _ => []
def cF : Nat → List Nat
 | 0 => [0,1]
 | 1 => [0,1]
 | _ => []
set_option maxRecDepth 100000 in
set_option maxHeartbeats 8000000 in
theorem qd (l : List (List Int)) (F : Nat) (p : List Int → Bool) (hF : ba Tryz.prog F = true) (hl : Lg l) (h : ∀ y ∈ l,AFn Tryz.prog F [gD y] [] (.c (.bool (p y))) []) :
  AFn Tryz.prog 73 [csA l,.fn (.func F) [] []] [] (inA (fiP p l)) [] := by
 unfold Lg at hl
 refine bi [] Tryz.func73 rfl Tryz.ntmps73 (Nat.le_of_ble_eq_true rfl) (Nat.le_of_ble_eq_true rfl) fun w0 G0 B0 Pr hB0 => ?_
 simp only [bu,bf,List.cons_append,List.nil_append]
 repeat' (first | (with_reducible refine hY _ ?_;clear hY Y) | ((with_reducible first | refine aX rfl (aR fun K' hK' => aa ?_) | refine hK' _ (ab fun Y hY => aa ?_) | refine aZ rfl (ab fun Y hY => aa ?_) | refine ab fun Y hY => aa ?_ | refine aR fun K' hK' => aa ?_ | refine ae tk0 bw (ab fun Y hY => aa ?_) | refine aa ?_ | refine aA ?_ | refine aT rfl (aq fun K' hK' => aa ?_) | refine hK' _ _ (ab fun Y hY => aa ?_) | refine aS rfl (ab fun Y hY => aa ?_) | refine aq fun K' hK' => aa ?_ | refine aK ?_);(try clear hK' K');(try dsimp only [aop]);try simp only [go_sem,↓reduceIte,Nat.reduceEqDiff,Nat.reduceLT,Nat.reduceLeDiff,Nat.reduceAdd,Nat.reduceSub,Nat.reduceMul,Nat.reduceBEq,Nat.reduceBNe,Nat.reducePow,Int.reduceToNat,Int.reduceLE,Int.reduceLT,Int.reduceMul,Int.reduceEq,Int.reducePow,Int.reduceAdd,Int.reduceSub,Int.reduceNeg,reduceCtorEq,bw,Tryz.results73]) | (with_reducible first | refine av ?_ | refine an rfl ?_ | refine ap ?_ | refine ao ?_ | refine bk ?_ ?_ | refine aO ?_ | refine aN ?_ | refine bj fun K hK => ?_ | refine ay ?_ | refine az ?_ | refine aU ?_ | refine aQ ?_ | refine aC ?_ | refine aD ?_ | refine aF ?_ | refine aj ?_ | refine ax ?_ | refine aP ?_ | refine aE ?_ | refine aB ?_ | refine ag ?_ | refine af ?_ | refine al ?_ | refine bl fun K hK => ?_) | (with_reducible refine hK _ ?_;clear hK K) | (with_reducible refine hK _ _ ?_ ?_;(· kernel_rfl);clear hK K) | ((with_reducible first | refine aJ ?_ ?_ | refine ai ?_ ?_ | refine aG ?_ ?_);(· decide)) | (with_reducible refine ak tk0 bw ?_ ?_;(· kernel_rfl)) | ((with_reducible first | refine am (fun hc => ?_) (fun hc => ?_) | refine aH (fun hc => ?_) (fun hc => ?_)) <;> (try simp only [decide_eq_true_eq,decide_eq_false_iff_not,Bool.not_true,Bool.not_false,Bool.not_eq_true',Bool.not_eq_false'] at hc) <;> (try (exfalso;omega))) | (with_reducible refine aY ?_ ?_;(· (try and_intros) <;> first | omega | assumption | (simp only [List.length_append,List.length_map,List.length_cons,List.length_nil] <;> omega))) | (with_reducible refine aI ?_) | fail)
 refine cq (α := Nat) (fun k => [(0,csA l),(1,.fn (.func F) [] []),(7,inA (l.length : Int)),(8,inA (k : Int))])
  (fun k => k ≤ l.length ∧ ∀ j (hj : j < l.length),j < k → p l[j] = false) (fun k => l.length - k) 0 [0,1,7,8] ?_ ⟨Nat.zero_le _,fun j _ hj => absurd hj (Nat.not_lt_zero _)⟩ ?_
 ·simp only [go_sem,↓reduceIte,Nat.reduceEqDiff,Nat.reduceLT,Nat.reduceLeDiff,Nat.reduceAdd,Nat.reduceSub,Nat.reduceMul,Nat.reduceBEq,Nat.reduceBNe,Nat.reducePow,Int.reduceToNat,Int.reduceLE,Int.reduceLT,Int.reduceMul,Int.reduceEq,Int.reducePow,Int.reduceAdd,Int.reduceSub,Int.reduceNeg,reduceCtorEq] <;> rfl
 rintro k ⟨hk,hall⟩ ih
 by_cases hlt : k < l.length
 ·have hlt' : ((k : Int) < (l.length : Int)) = True := eq_true (by omega)
  have hkw := cR (n := k) (by omega)
  have h1 := h l[k] (List.getElem_mem hlt)
  have hg0 := m7 hlt
  have hfl : (l.map gD).length = l.length := List.length_map ..
  have hfi := lN (p := p) hlt hall
  have hnx : p l[k] = false → ∀ j (hj : j < l.length),j < k + 1 → p l[j] = false := fun e j hj hjk => by
   by_cases hj2 : j < k
   ·exact hall j hj hj2
   ·have : j = k := by omega
    subst this;exact e
  generalize l[k] = t at *
  generalize hp : p t = b at *
  cases b with
  | true =>
   rw [hfi rfl]
   clear ih hfi hnx hall h
   repeat' (first | (with_reducible refine hY _ ?_;clear hY Y) | ((with_reducible first | refine aX rfl (aR fun K' hK' => aa ?_) | refine hK' _ (ab fun Y hY => aa ?_) | refine aZ rfl (ab fun Y hY => aa ?_) | refine ab fun Y hY => aa ?_ | refine aR fun K' hK' => aa ?_ | refine ae tk0 bw (ab fun Y hY => aa ?_) | refine aa ?_ | refine aA ?_ | refine aT rfl (aq fun K' hK' => aa ?_) | refine hK' _ _ (ab fun Y hY => aa ?_) | refine aS rfl (ab fun Y hY => aa ?_) | refine aq fun K' hK' => aa ?_ | refine aK ?_);(try clear hK' K');(try dsimp only [aop]);try simp only [go_sem,↓reduceIte,Nat.reduceEqDiff,Nat.reduceLT,Nat.reduceLeDiff,Nat.reduceAdd,Nat.reduceSub,Nat.reduceMul,Nat.reduceBEq,Nat.reduceBNe,Nat.reducePow,Int.reduceToNat,Int.reduceLE,Int.reduceLT,Int.reduceMul,Int.reduceEq,Int.reducePow,Int.reduceAdd,Int.reduceSub,Int.reduceNeg,reduceCtorEq,bw,Tryz.results73,hlt',hfl,hg0,hkw,hF]) | (with_reducible first | refine av ?_ | refine an rfl ?_ | refine ap ?_ | refine ao ?_ | refine bk ?_ ?_ | refine aO ?_ | refine aN ?_ | refine bj fun K hK => ?_ | refine ay ?_ | refine az ?_ | refine aU ?_ | refine aQ ?_ | refine aC ?_ | refine aD ?_ | refine aF ?_ | refine aj ?_ | refine ax ?_ | refine aP ?_ | refine aE ?_ | refine aB ?_ | refine ag ?_ | refine af ?_ | refine al ?_ | refine bl fun K hK => ?_) | (with_reducible refine hK _ ?_;clear hK K) | (with_reducible refine hK _ _ ?_ ?_;(· kernel_rfl);clear hK K) | ((with_reducible first | refine aJ ?_ ?_ | refine ai ?_ ?_ | refine aG ?_ ?_);(· decide)) | (with_reducible refine ak tk0 bw ?_ ?_;(· kernel_rfl)) | ((with_reducible first | refine am (fun hc => ?_) (fun hc => ?_) | refine aH (fun hc => ?_) (fun hc => ?_)) <;> (try simp only [decide_eq_true_eq,decide_eq_false_iff_not,Bool.not_true,Bool.not_false,Bool.not_eq_true',Bool.not_eq_false'] at hc) <;> (try (exfalso;omega))) | (with_reducible refine aY ?_ ?_;(· (try and_intros) <;> first | omega | assumption | (simp only [List.length_append,List.length_map,List.length_cons,List.length_nil] <;> omega))) | (with_reducible refine au (h1) ?_) | (with_reducible refine aI ?_) | fail)
  | false =>
   clear hfi
   repeat' (first | (with_reducible refine hY _ ?_;clear hY Y) | ((with_reducible first | refine aX rfl (aR fun K' hK' => aa ?_) | refine hK' _ (ab fun Y hY => aa ?_) | refine aZ rfl (ab fun Y hY => aa ?_) | refine ab fun Y hY => aa ?_ | refine aR fun K' hK' => aa ?_ | refine ae tk0 bw (ab fun Y hY => aa ?_) | refine aa ?_ | refine aA ?_ | refine aT rfl (aq fun K' hK' => aa ?_) | refine hK' _ _ (ab fun Y hY => aa ?_) | refine aS rfl (ab fun Y hY => aa ?_) | refine aq fun K' hK' => aa ?_ | refine aK ?_);(try clear hK' K');(try dsimp only [aop]);try simp only [go_sem,↓reduceIte,Nat.reduceEqDiff,Nat.reduceLT,Nat.reduceLeDiff,Nat.reduceAdd,Nat.reduceSub,Nat.reduceMul,Nat.reduceBEq,Nat.reduceBNe,Nat.reducePow,Int.reduceToNat,Int.reduceLE,Int.reduceLT,Int.reduceMul,Int.reduceEq,Int.reducePow,Int.reduceAdd,Int.reduceSub,Int.reduceNeg,reduceCtorEq,bw,Tryz.results73,hlt',hfl,hg0,hkw,hF]) | (with_reducible first | refine av ?_ | refine an rfl ?_ | refine ap ?_ | refine ao ?_ | refine bk ?_ ?_ | refine aO ?_ | refine aN ?_ | refine bj fun K hK => ?_ | refine ay ?_ | refine az ?_ | refine aU ?_ | refine aQ ?_ | refine aC ?_ | refine aD ?_ | refine aF ?_ | refine aj ?_ | refine ax ?_ | refine aP ?_ | refine aE ?_ | refine aB ?_ | refine ag ?_ | refine af ?_ | refine al ?_ | refine bl fun K hK => ?_) | (with_reducible refine hK _ ?_;clear hK K) | (with_reducible refine hK _ _ ?_ ?_;(· kernel_rfl);clear hK K) | ((with_reducible first | refine aJ ?_ ?_ | refine ai ?_ ?_ | refine aG ?_ ?_);(· decide)) | (with_reducible refine ak tk0 bw ?_ ?_;(· kernel_rfl)) | ((with_reducible first | refine am (fun hc => ?_) (fun hc => ?_) | refine aH (fun hc => ?_) (fun hc => ?_)) <;> (try simp only [decide_eq_true_eq,decide_eq_false_iff_not,Bool.not_true,Bool.not_false,Bool.not_eq_true',Bool.not_eq_false'] at hc) <;> (try (exfalso;omega))) | (with_reducible refine aY ?_ ?_;(· (try and_intros) <;> first | omega | assumption | (simp only [List.length_append,List.length_map,List.length_cons,List.length_nil] <;> omega))) | (with_reducible refine au (h1) ?_) | (with_reducible refine aI ?_) | fail)
   refine bJ [0,1,7,8] (by simp only [go_sem,↓reduceIte,Nat.reduceEqDiff,Nat.reduceLT,Nat.reduceLeDiff,Nat.reduceAdd,Nat.reduceSub,Nat.reduceMul,Nat.reduceBEq,Nat.reduceBNe,Nat.reducePow,Int.reduceToNat,Int.reduceLE,Int.reduceLT,Int.reduceMul,Int.reduceEq,Int.reducePow,Int.reduceAdd,Int.reduceSub,Int.reduceNeg,reduceCtorEq];exact rfl) ?_
   exact ih (k + 1) ⟨by omega,hnx rfl⟩ (by omega)
 ·have hlt' : ((k : Int) < (l.length : Int)) = False := eq_false (by omega)
  rw [lO fun j hj => hall j hj (by omega)]
  clear ih h hall
  repeat' (first | (with_reducible refine hY _ ?_;clear hY Y) | ((with_reducible first | refine aX rfl (aR fun K' hK' => aa ?_) | refine hK' _ (ab fun Y hY => aa ?_) | refine aZ rfl (ab fun Y hY => aa ?_) | refine ab fun Y hY => aa ?_ | refine aR fun K' hK' => aa ?_ | refine ae tk0 bw (ab fun Y hY => aa ?_) | refine aa ?_ | refine aA ?_ | refine aT rfl (aq fun K' hK' => aa ?_) | refine hK' _ _ (ab fun Y hY => aa ?_) | refine aS rfl (ab fun Y hY => aa ?_) | refine aq fun K' hK' => aa ?_ | refine aK ?_);(try clear hK' K');(try dsimp only [aop]);try simp only [go_sem,↓reduceIte,Nat.reduceEqDiff,Nat.reduceLT,Nat.reduceLeDiff,Nat.reduceAdd,Nat.reduceSub,Nat.reduceMul,Nat.reduceBEq,Nat.reduceBNe,Nat.reducePow,Int.reduceToNat,Int.reduceLE,Int.reduceLT,Int.reduceMul,Int.reduceEq,Int.reducePow,Int.reduceAdd,Int.reduceSub,Int.reduceNeg,reduceCtorEq,bw,Tryz.results73,hlt']) | (with_reducible first | refine av ?_ | refine an rfl ?_ | refine ap ?_ | refine ao ?_ | refine bk ?_ ?_ | refine aO ?_ | refine aN ?_ | refine bj fun K hK => ?_ | refine ay ?_ | refine az ?_ | refine aU ?_ | refine aQ ?_ | refine aC ?_ | refine aD ?_ | refine aF ?_ | refine aj ?_ | refine ax ?_ | refine aP ?_ | refine aE ?_ | refine aB ?_ | refine ag ?_ | refine af ?_ | refine al ?_ | refine bl fun K hK => ?_) | (with_reducible refine hK _ ?_;clear hK K) | (with_reducible refine hK _ _ ?_ ?_;(· kernel_rfl);clear hK K) | ((with_reducible first | refine aJ ?_ ?_ | refine ai ?_ ?_ | refine aG ?_ ?_);(· decide)) | (with_reducible refine ak tk0 bw ?_ ?_;(· kernel_rfl)) | ((with_reducible first | refine am (fun hc => ?_) (fun hc => ?_) | refine aH (fun hc => ?_) (fun hc => ?_)) <;> (try simp only [decide_eq_true_eq,decide_eq_false_iff_not,Bool.not_true,Bool.not_false,Bool.not_eq_true',Bool.not_eq_false'] at hc) <;> (try (exfalso;omega))) | (with_reducible refine aY ?_ ?_;(· (try and_intros) <;> first | omega | assumption | (simp only [List.length_append,List.length_map,List.length_cons,List.length_nil] <;> omega))) | (with_reducible refine aI ?_) | fail)
set_option maxRecDepth 100000 in
set_option maxHeartbeats 8000000 in
theorem p7 (l : List (List Int)) (F : Nat) (p : List Int → Bool) (hF : ba Tryz.prog F = true) (hl : Lg l) (h : ∀ y ∈ l,AFn Tryz.prog F [gD y] [] (.c (.bool (p y))) []) :
  AFn Tryz.prog 46 [csA l,.fn (.func F) [] []] [] (.c (.bool (l.any p))) [] := by
 have h1 := qd l F p hF hl h
 have h2 : decide (0 ≤ fiP p l) = l.any p := jC p l
 refine bi [] Tryz.func46 rfl Tryz.ntmps46 (Nat.le_of_ble_eq_true rfl) (Nat.le_of_ble_eq_true rfl) fun w0 G0 B0 Pr hB0 => ?_
 simp only [bu,bf,List.cons_append,List.nil_append]
 repeat' (first | (with_reducible refine hY _ ?_;clear hY Y) | ((with_reducible first | refine aX rfl (aR fun K' hK' => aa ?_) | refine hK' _ (ab fun Y hY => aa ?_) | refine aZ rfl (ab fun Y hY => aa ?_) | refine ab fun Y hY => aa ?_ | refine aR fun K' hK' => aa ?_ | refine ae tk0 cF (ab fun Y hY => aa ?_) | refine aa ?_ | refine aA ?_ | refine aT rfl (aq fun K' hK' => aa ?_) | refine hK' _ _ (ab fun Y hY => aa ?_) | refine aS rfl (ab fun Y hY => aa ?_) | refine aq fun K' hK' => aa ?_ | refine aK ?_);(try clear hK' K');(try dsimp only [aop]);try simp only [go_sem,↓reduceIte,Nat.reduceEqDiff,Nat.reduceLT,Nat.reduceLeDiff,Nat.reduceAdd,Nat.reduceSub,Nat.reduceMul,Nat.reduceBEq,Nat.reduceBNe,Nat.reducePow,Int.reduceToNat,Int.reduceLE,Int.reduceLT,Int.reduceMul,Int.reduceEq,Int.reducePow,Int.reduceAdd,Int.reduceSub,Int.reduceNeg,reduceCtorEq,cF,Tryz.results46,h2]) | (with_reducible first | refine av ?_ | refine an rfl ?_ | refine ap ?_ | refine ao ?_ | refine bk ?_ ?_ | refine aO ?_ | refine aN ?_ | refine bj fun K hK => ?_ | refine ay ?_ | refine az ?_ | refine aU ?_ | refine aQ ?_ | refine aC ?_ | refine aD ?_ | refine aF ?_ | refine aj ?_ | refine ax ?_ | refine aP ?_ | refine aE ?_ | refine aB ?_ | refine ag ?_ | refine af ?_ | refine al ?_ | refine bl fun K hK => ?_) | (with_reducible refine hK _ ?_;clear hK K) | (with_reducible refine hK _ _ ?_ ?_;(· kernel_rfl);clear hK K) | ((with_reducible first | refine aJ ?_ ?_ | refine ai ?_ ?_ | refine aG ?_ ?_);(· decide)) | (with_reducible refine ak tk0 cF ?_ ?_;(· kernel_rfl)) | ((with_reducible first | refine am (fun hc => ?_) (fun hc => ?_) | refine aH (fun hc => ?_) (fun hc => ?_)) <;> (try simp only [decide_eq_true_eq,decide_eq_false_iff_not,Bool.not_true,Bool.not_false,Bool.not_eq_true',Bool.not_eq_false'] at hc) <;> (try (exfalso;omega))) | (with_reducible refine aY ?_ ?_;(· (try and_intros) <;> first | omega | assumption | (simp only [List.length_append,List.length_map,List.length_cons,List.length_nil] <;> omega))) | (with_reducible refine au (h1) ?_) | (with_reducible refine aI ?_) | fail)
def jS (n l : Int) : Bool := !decide (l = 0) && (decide (-n ≤ l) && decide (l ≤ n))
def bK : Nat → List Nat
 | 0 => [0,1]
 | 1 => [0,1]
 | _ => []
set_option maxRecDepth 100000 in
theorem ji (n l : Int) (hn : 0 ≤ n ∧ n ≤ 1000000) : AFn Tryz.prog 66 [inA n,inA l] [] (.c (.bool (jS n l))) [] := by
 have hw : IntKind.i64.wrap (0 - n) = -n := by rw [bQ (by omega) (by omega)];omega
 unfold jS
 by_cases h1 : l = 0
 ·subst h1
  refine bi [] Tryz.func66 rfl Tryz.ntmps66 (Nat.le_of_ble_eq_true rfl) (Nat.le_of_ble_eq_true rfl) fun w0 G0 B0 Pr hB0 => ?_
  simp only [bu,bf,List.cons_append,List.nil_append]
  repeat' (first | (with_reducible refine hY _ ?_;clear hY Y) | ((with_reducible first | refine aX rfl (aR fun K' hK' => aa ?_) | refine hK' _ (ab fun Y hY => aa ?_) | refine aZ rfl (ab fun Y hY => aa ?_) | refine ab fun Y hY => aa ?_ | refine aR fun K' hK' => aa ?_ | refine ae tk0 bK (ab fun Y hY => aa ?_) | refine aa ?_ | refine aA ?_ | refine aT rfl (aq fun K' hK' => aa ?_) | refine hK' _ _ (ab fun Y hY => aa ?_) | refine aS rfl (ab fun Y hY => aa ?_) | refine aq fun K' hK' => aa ?_ | refine aK ?_);(try clear hK' K');(try dsimp only [aop]);try simp only [go_sem,↓reduceIte,Nat.reduceEqDiff,Nat.reduceLT,Nat.reduceLeDiff,Nat.reduceAdd,Nat.reduceSub,Nat.reduceMul,Nat.reduceBEq,Nat.reduceBNe,Nat.reducePow,Int.reduceToNat,Int.reduceLE,Int.reduceLT,Int.reduceMul,Int.reduceEq,Int.reducePow,Int.reduceAdd,Int.reduceSub,Int.reduceNeg,reduceCtorEq,bK,Tryz.results66,hw]) | (with_reducible first | refine av ?_ | refine an rfl ?_ | refine ap ?_ | refine ao ?_ | refine bk ?_ ?_ | refine aO ?_ | refine aN ?_ | refine bj fun K hK => ?_ | refine ay ?_ | refine az ?_ | refine aU ?_ | refine aQ ?_ | refine aC ?_ | refine aD ?_ | refine aF ?_ | refine aj ?_ | refine ax ?_ | refine aP ?_ | refine aE ?_ | refine aB ?_ | refine ag ?_ | refine af ?_ | refine al ?_ | refine bl fun K hK => ?_) | (with_reducible refine hK _ ?_;clear hK K) | (with_reducible refine hK _ _ ?_ ?_;(· kernel_rfl);clear hK K) | ((with_reducible first | refine aJ ?_ ?_ | refine ai ?_ ?_ | refine aG ?_ ?_);(· decide)) | (with_reducible refine ak tk0 bK ?_ ?_;(· kernel_rfl)) | ((with_reducible first | refine am (fun hc => ?_) (fun hc => ?_) | refine aH (fun hc => ?_) (fun hc => ?_)) <;> (try simp only [decide_eq_true_eq,decide_eq_false_iff_not,Bool.not_true,Bool.not_false,Bool.not_eq_true',Bool.not_eq_false'] at hc) <;> (try (exfalso;omega))) | (with_reducible refine aY ?_ ?_;(· (try and_intros) <;> first | omega | assumption | (simp only [List.length_append,List.length_map,List.length_cons,List.length_nil] <;> omega))) | (with_reducible refine aI ?_) | fail)
 by_cases h2 : -n ≤ l
 ·by_cases h3 : l ≤ n
  ·rw [decide_eq_false h1,decide_eq_true h2,decide_eq_true h3]
   refine bi [] Tryz.func66 rfl Tryz.ntmps66 (Nat.le_of_ble_eq_true rfl) (Nat.le_of_ble_eq_true rfl) fun w0 G0 B0 Pr hB0 => ?_
   simp only [bu,bf,List.cons_append,List.nil_append]
   repeat' (first | (with_reducible refine hY _ ?_;clear hY Y) | ((with_reducible first | refine aX rfl (aR fun K' hK' => aa ?_) | refine hK' _ (ab fun Y hY => aa ?_) | refine aZ rfl (ab fun Y hY => aa ?_) | refine ab fun Y hY => aa ?_ | refine aR fun K' hK' => aa ?_ | refine ae tk0 bK (ab fun Y hY => aa ?_) | refine aa ?_ | refine aA ?_ | refine aT rfl (aq fun K' hK' => aa ?_) | refine hK' _ _ (ab fun Y hY => aa ?_) | refine aS rfl (ab fun Y hY => aa ?_) | refine aq fun K' hK' => aa ?_ | refine aK ?_);(try clear hK' K');(try dsimp only [aop]);try simp only [go_sem,↓reduceIte,Nat.reduceEqDiff,Nat.reduceLT,Nat.reduceLeDiff,Nat.reduceAdd,Nat.reduceSub,Nat.reduceMul,Nat.reduceBEq,Nat.reduceBNe,Nat.reducePow,Int.reduceToNat,Int.reduceLE,Int.reduceLT,Int.reduceMul,Int.reduceEq,Int.reducePow,Int.reduceAdd,Int.reduceSub,Int.reduceNeg,reduceCtorEq,bK,Tryz.results66,hw,h1,h2,h3]) | (with_reducible first | refine av ?_ | refine an rfl ?_ | refine ap ?_ | refine ao ?_ | refine bk ?_ ?_ | refine aO ?_ | refine aN ?_ | refine bj fun K hK => ?_ | refine ay ?_ | refine az ?_ | refine aU ?_ | refine aQ ?_ | refine aC ?_ | refine aD ?_ | refine aF ?_ | refine aj ?_ | refine ax ?_ | refine aP ?_ | refine aE ?_ | refine aB ?_ | refine ag ?_ | refine af ?_ | refine al ?_ | refine bl fun K hK => ?_) | (with_reducible refine hK _ ?_;clear hK K) | (with_reducible refine hK _ _ ?_ ?_;(· kernel_rfl);clear hK K) | ((with_reducible first | refine aJ ?_ ?_ | refine ai ?_ ?_ | refine aG ?_ ?_);(· decide)) | (with_reducible refine ak tk0 bK ?_ ?_;(· kernel_rfl)) | ((with_reducible first | refine am (fun hc => ?_) (fun hc => ?_) | refine aH (fun hc => ?_) (fun hc => ?_)) <;> (try simp only [decide_eq_true_eq,decide_eq_false_iff_not,Bool.not_true,Bool.not_false,Bool.not_eq_true',Bool.not_eq_false'] at hc) <;> (try (exfalso;omega))) | (with_reducible refine aY ?_ ?_;(· (try and_intros) <;> first | omega | assumption | (simp only [List.length_append,List.length_map,List.length_cons,List.length_nil] <;> omega))) | (with_reducible refine aI ?_) | fail)
  ·rw [decide_eq_false h1,decide_eq_true h2,decide_eq_false h3]
   refine bi [] Tryz.func66 rfl Tryz.ntmps66 (Nat.le_of_ble_eq_true rfl) (Nat.le_of_ble_eq_true rfl) fun w0 G0 B0 Pr hB0 => ?_
   simp only [bu,bf,List.cons_append,List.nil_append]
   repeat' (first | (with_reducible refine hY _ ?_;clear hY Y) | ((with_reducible first | refine aX rfl (aR fun K' hK' => aa ?_) | refine hK' _ (ab fun Y hY => aa ?_) | refine aZ rfl (ab fun Y hY => aa ?_) | refine ab fun Y hY => aa ?_ | refine aR fun K' hK' => aa ?_ | refine ae tk0 bK (ab fun Y hY => aa ?_) | refine aa ?_ | refine aA ?_ | refine aT rfl (aq fun K' hK' => aa ?_) | refine hK' _ _ (ab fun Y hY => aa ?_) | refine aS rfl (ab fun Y hY => aa ?_) | refine aq fun K' hK' => aa ?_ | refine aK ?_);(try clear hK' K');(try dsimp only [aop]);try simp only [go_sem,↓reduceIte,Nat.reduceEqDiff,Nat.reduceLT,Nat.reduceLeDiff,Nat.reduceAdd,Nat.reduceSub,Nat.reduceMul,Nat.reduceBEq,Nat.reduceBNe,Nat.reducePow,Int.reduceToNat,Int.reduceLE,Int.reduceLT,Int.reduceMul,Int.reduceEq,Int.reducePow,Int.reduceAdd,Int.reduceSub,Int.reduceNeg,reduceCtorEq,bK,Tryz.results66,hw,h1,h2,h3]) | (with_reducible first | refine av ?_ | refine an rfl ?_ | refine ap ?_ | refine ao ?_ | refine bk ?_ ?_ | refine aO ?_ | refine aN ?_ | refine bj fun K hK => ?_ | refine ay ?_ | refine az ?_ | refine aU ?_ | refine aQ ?_ | refine aC ?_ | refine aD ?_ | refine aF ?_ | refine aj ?_ | refine ax ?_ | refine aP ?_ | refine aE ?_ | refine aB ?_ | refine ag ?_ | refine af ?_ | refine al ?_ | refine bl fun K hK => ?_) | (with_reducible refine hK _ ?_;clear hK K) | (with_reducible refine hK _ _ ?_ ?_;(· kernel_rfl);clear hK K) | ((with_reducible first | refine aJ ?_ ?_ | refine ai ?_ ?_ | refine aG ?_ ?_);(· decide)) | (with_reducible refine ak tk0 bK ?_ ?_;(· kernel_rfl)) | ((with_reducible first | refine am (fun hc => ?_) (fun hc => ?_) | refine aH (fun hc => ?_) (fun hc => ?_)) <;> (try simp only [decide_eq_true_eq,decide_eq_false_iff_not,Bool.not_true,Bool.not_false,Bool.not_eq_true',Bool.not_eq_false'] at hc) <;> (try (exfalso;omega))) | (with_reducible refine aY ?_ ?_;(· (try and_intros) <;> first | omega | assumption | (simp only [List.length_append,List.length_map,List.length_cons,List.length_nil] <;> omega))) | (with_reducible refine aI ?_) | fail)
 ·rw [decide_eq_false h1,decide_eq_false h2]
  refine bi [] Tryz.func66 rfl Tryz.ntmps66 (Nat.le_of_ble_eq_true rfl) (Nat.le_of_ble_eq_true rfl) fun w0 G0 B0 Pr hB0 => ?_
  simp only [bu,bf,List.cons_append,List.nil_append]
  repeat' (first | (with_reducible refine hY _ ?_;clear hY Y) | ((with_reducible first | refine aX rfl (aR fun K' hK' => aa ?_) | refine hK' _ (ab fun Y hY => aa ?_) | refine aZ rfl (ab fun Y hY => aa ?_) | refine ab fun Y hY => aa ?_ | refine aR fun K' hK' => aa ?_ | refine ae tk0 bK (ab fun Y hY => aa ?_) | refine aa ?_ | refine aA ?_ | refine aT rfl (aq fun K' hK' => aa ?_) | refine hK' _ _ (ab fun Y hY => aa ?_) | refine aS rfl (ab fun Y hY => aa ?_) | refine aq fun K' hK' => aa ?_ | refine aK ?_);(try clear hK' K');(try dsimp only [aop]);try simp only [go_sem,↓reduceIte,Nat.reduceEqDiff,Nat.reduceLT,Nat.reduceLeDiff,Nat.reduceAdd,Nat.reduceSub,Nat.reduceMul,Nat.reduceBEq,Nat.reduceBNe,Nat.reducePow,Int.reduceToNat,Int.reduceLE,Int.reduceLT,Int.reduceMul,Int.reduceEq,Int.reducePow,Int.reduceAdd,Int.reduceSub,Int.reduceNeg,reduceCtorEq,bK,Tryz.results66,hw,h1,h2]) | (with_reducible first | refine av ?_ | refine an rfl ?_ | refine ap ?_ | refine ao ?_ | refine bk ?_ ?_ | refine aO ?_ | refine aN ?_ | refine bj fun K hK => ?_ | refine ay ?_ | refine az ?_ | refine aU ?_ | refine aQ ?_ | refine aC ?_ | refine aD ?_ | refine aF ?_ | refine aj ?_ | refine ax ?_ | refine aP ?_ | refine aE ?_ | refine aB ?_ | refine ag ?_ | refine af ?_ | refine al ?_ | refine bl fun K hK => ?_) | (with_reducible refine hK _ ?_;clear hK K) | (with_reducible refine hK _ _ ?_ ?_;(· kernel_rfl);clear hK K) | ((with_reducible first | refine aJ ?_ ?_ | refine ai ?_ ?_ | refine aG ?_ ?_);(· decide)) | (with_reducible refine ak tk0 bK ?_ ?_;(· kernel_rfl)) | ((with_reducible first | refine am (fun hc => ?_) (fun hc => ?_) | refine aH (fun hc => ?_) (fun hc => ?_)) <;> (try simp only [decide_eq_true_eq,decide_eq_false_iff_not,Bool.not_true,Bool.not_false,Bool.not_eq_true',Bool.not_eq_false'] at hc) <;> (try (exfalso;omega))) | (with_reducible refine aY ?_ ?_;(· (try and_intros) <;> first | omega | assumption | (simp only [List.length_append,List.length_map,List.length_cons,List.length_nil] <;> omega))) | (with_reducible refine aI ?_) | fail)
def c4 : Nat → List Nat
 | 0 => [0,1]
 | 1 => [0,1]
 | _ => []
set_option maxRecDepth 100000 in
theorem m4 (n l : Int) (hn : 0 ≤ n ∧ n ≤ 1000000) : AFn Tryz.prog 65 [inA l,.loc 20000 0] [.bc [inA n] 3] (.c (.bool (!jS n l))) [.bc [inA n] 3] := by
 have h1 := ji n l hn
 generalize jS n l = b at *
 refine bi [] Tryz.func65 rfl Tryz.ntmps65 (Nat.le_of_ble_eq_true rfl) (Nat.le_of_ble_eq_true rfl) fun w0 G0 B0 Pr hB0 => ?_
 simp only [bu,bf,List.cons_append,List.nil_append]
 repeat' (first | (with_reducible refine hY _ ?_;clear hY Y) | ((with_reducible first | refine aX rfl (aR fun K' hK' => aa ?_) | refine hK' _ (ab fun Y hY => aa ?_) | refine aZ rfl (ab fun Y hY => aa ?_) | refine ab fun Y hY => aa ?_ | refine aR fun K' hK' => aa ?_ | refine ae tk0 c4 (ab fun Y hY => aa ?_) | refine aa ?_ | refine aA ?_ | refine aT rfl (aq fun K' hK' => aa ?_) | refine hK' _ _ (ab fun Y hY => aa ?_) | refine aS rfl (ab fun Y hY => aa ?_) | refine aq fun K' hK' => aa ?_ | refine aK ?_);(try clear hK' K');(try dsimp only [aop]);try simp only [go_sem,↓reduceIte,Nat.reduceEqDiff,Nat.reduceLT,Nat.reduceLeDiff,Nat.reduceAdd,Nat.reduceSub,Nat.reduceMul,Nat.reduceBEq,Nat.reduceBNe,Nat.reducePow,Int.reduceToNat,Int.reduceLE,Int.reduceLT,Int.reduceMul,Int.reduceEq,Int.reducePow,Int.reduceAdd,Int.reduceSub,Int.reduceNeg,reduceCtorEq,c4,Tryz.results65]) | (with_reducible first | refine av ?_ | refine an rfl ?_ | refine ap ?_ | refine ao ?_ | refine bk ?_ ?_ | refine aO ?_ | refine aN ?_ | refine bj fun K hK => ?_ | refine ay ?_ | refine az ?_ | refine aU ?_ | refine aQ ?_ | refine aC ?_ | refine aD ?_ | refine aF ?_ | refine aj ?_ | refine ax ?_ | refine aP ?_ | refine aE ?_ | refine aB ?_ | refine ag ?_ | refine af ?_ | refine al ?_ | refine bl fun K hK => ?_) | (with_reducible refine hK _ ?_;clear hK K) | (with_reducible refine hK _ _ ?_ ?_;(· kernel_rfl);clear hK K) | ((with_reducible first | refine aJ ?_ ?_ | refine ai ?_ ?_ | refine aG ?_ ?_);(· decide)) | (with_reducible refine ak tk0 c4 ?_ ?_;(· kernel_rfl)) | ((with_reducible first | refine am (fun hc => ?_) (fun hc => ?_) | refine aH (fun hc => ?_) (fun hc => ?_)) <;> (try simp only [decide_eq_true_eq,decide_eq_false_iff_not,Bool.not_true,Bool.not_false,Bool.not_eq_true',Bool.not_eq_false'] at hc) <;> (try (exfalso;omega))) | (with_reducible refine aY ?_ ?_;(· (try and_intros) <;> first | omega | assumption | (simp only [List.length_append,List.length_map,List.length_cons,List.length_nil] <;> omega))) | (with_reducible refine au (h1) ?_) | (with_reducible refine aI ?_) | fail)
def cY : Nat → List Nat
 | 0 => [0,1]
 | 1 => [0,1]
 | _ => []
set_option maxRecDepth 100000 in
theorem mo (n l : Int) (hn : 0 ≤ n ∧ n ≤ 1000000) : AFn Tryz.prog 70 [inA l,.loc 20000 0] [.bc [inA n] 3] (.c (.bool (!jS n l))) [.bc [inA n] 3] := by
 have h1 := ji n l hn
 generalize jS n l = b at *
 refine bi [] Tryz.func70 rfl Tryz.ntmps70 (Nat.le_of_ble_eq_true rfl) (Nat.le_of_ble_eq_true rfl) fun w0 G0 B0 Pr hB0 => ?_
 simp only [bu,bf,List.cons_append,List.nil_append]
 repeat' (first | (with_reducible refine hY _ ?_;clear hY Y) | ((with_reducible first | refine aX rfl (aR fun K' hK' => aa ?_) | refine hK' _ (ab fun Y hY => aa ?_) | refine aZ rfl (ab fun Y hY => aa ?_) | refine ab fun Y hY => aa ?_ | refine aR fun K' hK' => aa ?_ | refine ae tk0 cY (ab fun Y hY => aa ?_) | refine aa ?_ | refine aA ?_ | refine aT rfl (aq fun K' hK' => aa ?_) | refine hK' _ _ (ab fun Y hY => aa ?_) | refine aS rfl (ab fun Y hY => aa ?_) | refine aq fun K' hK' => aa ?_ | refine aK ?_);(try clear hK' K');(try dsimp only [aop]);try simp only [go_sem,↓reduceIte,Nat.reduceEqDiff,Nat.reduceLT,Nat.reduceLeDiff,Nat.reduceAdd,Nat.reduceSub,Nat.reduceMul,Nat.reduceBEq,Nat.reduceBNe,Nat.reducePow,Int.reduceToNat,Int.reduceLE,Int.reduceLT,Int.reduceMul,Int.reduceEq,Int.reducePow,Int.reduceAdd,Int.reduceSub,Int.reduceNeg,reduceCtorEq,cY,Tryz.results70]) | (with_reducible first | refine av ?_ | refine an rfl ?_ | refine ap ?_ | refine ao ?_ | refine bk ?_ ?_ | refine aO ?_ | refine aN ?_ | refine bj fun K hK => ?_ | refine ay ?_ | refine az ?_ | refine aU ?_ | refine aQ ?_ | refine aC ?_ | refine aD ?_ | refine aF ?_ | refine aj ?_ | refine ax ?_ | refine aP ?_ | refine aE ?_ | refine aB ?_ | refine ag ?_ | refine af ?_ | refine al ?_ | refine bl fun K hK => ?_) | (with_reducible refine hK _ ?_;clear hK K) | (with_reducible refine hK _ _ ?_ ?_;(· kernel_rfl);clear hK K) | ((with_reducible first | refine aJ ?_ ?_ | refine ai ?_ ?_ | refine aG ?_ ?_);(· decide)) | (with_reducible refine ak tk0 cY ?_ ?_;(· kernel_rfl)) | ((with_reducible first | refine am (fun hc => ?_) (fun hc => ?_) | refine aH (fun hc => ?_) (fun hc => ?_)) <;> (try simp only [decide_eq_true_eq,decide_eq_false_iff_not,Bool.not_true,Bool.not_false,Bool.not_eq_true',Bool.not_eq_false'] at hc) <;> (try (exfalso;omega))) | (with_reducible refine aY ?_ ?_;(· (try and_intros) <;> first | omega | assumption | (simp only [List.length_append,List.length_map,List.length_cons,List.length_nil] <;> omega))) | (with_reducible refine au (h1) ?_) | (with_reducible refine aI ?_) | fail)
def c5 : Nat → List Nat
 | 0 => [0]
 | 1 => [0]
 | _ => []
set_option maxRecDepth 100000 in
theorem qx (c : List Int) : AFn Tryz.prog 47 [gD c] [] (.c (.bool (decide (c.length = 0)))) [] := by
 have e : decide ((c.length : Int) = 0) = decide (c.length = 0) := by
  by_cases h : c.length = 0
  ·simp [h]
  ·rw [decide_eq_false h,decide_eq_false (by omega)]
 refine bi [] Tryz.func47 rfl Tryz.ntmps47 (Nat.le_of_ble_eq_true rfl) (Nat.le_of_ble_eq_true rfl) fun w0 G0 B0 Pr hB0 => ?_
 simp only [bu,bf,List.cons_append,List.nil_append]
 repeat' (first | (with_reducible refine hY _ ?_;clear hY Y) | ((with_reducible first | refine aX rfl (aR fun K' hK' => aa ?_) | refine hK' _ (ab fun Y hY => aa ?_) | refine aZ rfl (ab fun Y hY => aa ?_) | refine ab fun Y hY => aa ?_ | refine aR fun K' hK' => aa ?_ | refine ae tk0 c5 (ab fun Y hY => aa ?_) | refine aa ?_ | refine aA ?_ | refine aT rfl (aq fun K' hK' => aa ?_) | refine hK' _ _ (ab fun Y hY => aa ?_) | refine aS rfl (ab fun Y hY => aa ?_) | refine aq fun K' hK' => aa ?_ | refine aK ?_);(try clear hK' K');(try dsimp only [aop]);try simp only [go_sem,↓reduceIte,Nat.reduceEqDiff,Nat.reduceLT,Nat.reduceLeDiff,Nat.reduceAdd,Nat.reduceSub,Nat.reduceMul,Nat.reduceBEq,Nat.reduceBNe,Nat.reducePow,Int.reduceToNat,Int.reduceLE,Int.reduceLT,Int.reduceMul,Int.reduceEq,Int.reducePow,Int.reduceAdd,Int.reduceSub,Int.reduceNeg,reduceCtorEq,c5,Tryz.results47,e]) | (with_reducible first | refine av ?_ | refine an rfl ?_ | refine ap ?_ | refine ao ?_ | refine bk ?_ ?_ | refine aO ?_ | refine aN ?_ | refine bj fun K hK => ?_ | refine ay ?_ | refine az ?_ | refine aU ?_ | refine aQ ?_ | refine aC ?_ | refine aD ?_ | refine aF ?_ | refine aj ?_ | refine ax ?_ | refine aP ?_ | refine aE ?_ | refine aB ?_ | refine ag ?_ | refine af ?_ | refine al ?_ | refine bl fun K hK => ?_) | (with_reducible refine hK _ ?_;clear hK K) | (with_reducible refine hK _ _ ?_ ?_;(· kernel_rfl);clear hK K) | ((with_reducible first | refine aJ ?_ ?_ | refine ai ?_ ?_ | refine aG ?_ ?_);(· decide)) | (with_reducible refine ak tk0 c5 ?_ ?_;(· kernel_rfl)) | ((with_reducible first | refine am (fun hc => ?_) (fun hc => ?_) | refine aH (fun hc => ?_) (fun hc => ?_)) <;> (try simp only [decide_eq_true_eq,decide_eq_false_iff_not,Bool.not_true,Bool.not_false,Bool.not_eq_true',Bool.not_eq_false'] at hc) <;> (try (exfalso;omega))) | (with_reducible refine aY ?_ ?_;(· (try and_intros) <;> first | omega | assumption | (simp only [List.length_append,List.length_map,List.length_cons,List.length_nil] <;> omega))) | (with_reducible refine aI ?_) | fail)
set_option maxRecDepth 100000 in
set_option maxHeartbeats 1000000 in
theorem oq (n : Nat) (hn : n ≤ 1000) : AFn Tryz.prog 69 [.sl [] 0 .full,inA (n : Int)] [] (.sl [] 0 (.tok 20000)) [.bt 0 23] := fun w G vs hst hX hvs hargs => by
 have hγ : ∀ k,G.γ k = none := fun k => by
  cases hg : G.γ k with
  | none => rfl
  | some g =>
   exact ((hst.box k g hg).2.2.not_u (gw k)).elim
 obtain ⟨ad,cap,b,off,f,e0,⟨q1,q2,q3,q4,q5⟩,hf,_⟩ := df (hargs 0 (by simp))
 have hcap := hf rfl
 subst hcap
 have e1 := cr (hargs 1 (by simp))
 have hvs2 : vs = #[.slice ad 0 0,.int .i64 (n : Int)] := by
  cases vs with
  | mk l =>
   match l,hvs with
   | [v0,v1],_ => simp at e0 e1;subst e0;subst e1;rfl
 subst hvs2
 have hx : ∀ k,bZ [.bt 0 23] k = if k = 20000 then .bt 0 23 else .u := fun k => by
  exact oh _ rfl k
 have hbs : BStep G (bZ []) G (bZ [.bt 0 23]) := ⟨.refl _,fun k _ => .u (gw k)⟩
 by_cases h0 : n = 0
 ·subst h0
  refine (Any8.slices_Grow_room Tryz.zGrowC ad 0 0 0 w (Nat.le_refl _) (by decide) (by decide) (by decide)).mono ?_
  rintro e w' ⟨rfl,rfl⟩
  refine ⟨_,G,rfl,.tok ad 0 0 [] 20000 0 23 (.sl ad b off 0 0 .none [] f (.inl rfl) (Nat.le_refl _) q2 (.inl ⟨rfl,rfl⟩) (fun j hj => absurd hj (Nat.not_lt_zero _)) fun j hj => absurd hj (Nat.not_lt_zero _)) (by decide) (by rw [hx,if_pos rfl]) (Nat.le_refl _) (fun _ => ⟨fun _ => rfl,fun g hg => by rw [hγ] at hg;cases hg⟩),
   ⟨hst.agree,(fun k g hk => by rw [hγ] at hk;cases hk),(fun k cs ty _ hc => by rw [hx] at hc;split at hc <;> cases hc),(fun k k' g hk => by rw [hγ] at hk;cases hk),hst.gl⟩,.refl _ _,hbs,fun _ _ _ _ => rfl⟩
 ·obtain ⟨i0,hi0,hz0,hs0,hb0⟩ : ∃ i0,Tryz.prog.info? 23 = some i0 ∧ i0.zero = some (.slice none 0 0) ∧ i0.size = 1 ∧ i0.bytes = 24 := ⟨_,rfl,rfl,rfl,rfl⟩
  refine (Any8.slices_Grow_grow Tryz.zGrowC i0 (.slice none 0 0) hi0 hz0 (by omega) ad 0 0 n [] w (Nat.le_refl _) (by omega) (by rw [hb0];omega) (by omega) (by simp) (fun h => rfl) (fun a _ j v hj => by simp at hj)).mono ?_
  rintro e w' ⟨rfl,rfl⟩
  have hg0 : n ≤ grownCap w (0 + n) 0 23 := by have := grownCap_ge w (0 + n) 0 23;omega
  have hcm : grownCap w (0 + n) 0 23 ≤ maxLen := grownCap_le_maxLen w _ _ _ (by unfold maxLen;omega)
  simp only [show Tryz.zGrowC_ren.t 25 = 23 from rfl]
  generalize grownCap w (0 + n) 0 23 = C at *
  have hsz : (#[] ++ Builtin.zeroCells (Value.slice none 0 0).cells (0 + n - 0) ++ Builtin.zeroCells (Value.slice none 0 0).cells (C - (0 + n))).size = C * 1 := by
   simp [size_zeroCells,Value.cells];omega
  generalize (#[] ++ Builtin.zeroCells (Value.slice none 0 0).cells (0 + n - 0) ++ Builtin.zeroCells (Value.slice none 0 0).cells (C - (0 + n))) = Zs at *
  have hw1 : (w.drew.alloc (.cells Zs 23)).heap[w.heap.size]? = some (.cells Zs 23 (0,0)) := World.alloc_heap_new w.drew _
  have hb : RowKit.Below w.heap.size w (w.drew.alloc (.cells Zs 23)) := (show RowKit.Below w.heap.size w w.drew from ⟨rfl,rfl,rfl,Nat.le_refl _,fun _ _ => rfl⟩).alloc (Nat.le_refl _) _
  have hz : ∀ o,G.Z w.heap.size o = none := fun o => by
   cases hz : G.Z w.heap.size o with
   | none => rfl
   | some v => have := World.block_lt_of_cell? w ⟨w.heap.size,o,none⟩ (hst.agree _ o v hz).1;simp at this
  generalize w.drew.alloc (.cells Zs 23) = w' at *
  have hcl : Tryz.prog.cellsOf 23 = 1 := by kernel_rfl
  refine ⟨_,⟨G.Z,fun k => if k = 20000 then some w.heap.size else none,fun _ => C,G.β⟩,rfl,
   .tok (some ⟨w.heap.size,0,none⟩) 0 C [] 20000 0 23 (.sl (some ⟨w.heap.size,0,none⟩) 0 0 0 C .none [] (fun _ => undef) (.inl rfl) (Nat.zero_le _) (fun e => by cases e) (.inl ⟨rfl,rfl⟩) (fun j hj => absurd hj (Nat.not_lt_zero _)) fun j hj => absurd hj (Nat.not_lt_zero _)) (by decide) (by rw [hx,if_pos rfl]) (Nat.le_refl _)
    (fun _ => ⟨fun h => by have h' : (if (20000 : Nat) = 20000 then some w.heap.size else none) = none := h;simp at h',fun g hg => by have h' : (if (20000 : Nat) = 20000 then some w.heap.size else none) = some g := hg;rw [if_pos rfl] at h';cases h';exact ⟨rfl,rfl⟩⟩),
   ⟨fun b o v hz' => ?_,fun k g hk => ?_,(fun k cs ty _ hc => by rw [hx] at hc;split at hc <;> cases hc),fun k k' g hk hk' => ?_,hst.gl⟩,⟨hb.os,hb.tape,hb.output,hb.size,fun b hp _ => hb.block b hp.1⟩,
   ⟨.refl _,fun k _ => .u (gw k)⟩,fun _ _ _ _ => rfl⟩
  ·have := hst.agree b o v hz'
   exact ⟨(hb.cell (p := ⟨b,o,none⟩) (World.block_lt_of_cell? w ⟨b,o,none⟩ this.1)).trans this.1,this.2⟩
  ·have hk' : (if k = 20000 then some w.heap.size else none) = some g := hk
   split at hk'
   ·rename_i hk2;subst hk2;cases hk'
    exact ⟨by decide,fun hp => absurd hp.1 (Nat.lt_irrefl _),.inr (.inl ⟨0,23,by rw [hx,if_pos rfl],Zs,hw1,Nat.zero_le _,hcm,by rw [hcl];exact hsz,fun o _ => hz o⟩)⟩
   ·cases hk'
  ·have e1 : (if k = 20000 then some w.heap.size else none) = some g := hk
   have e2 : (if k' = 20000 then some w.heap.size else none) = some g := hk'
   split at e1
   ·split at e2
    ·omega
    ·cases e2
   ·cases e1
def cU : Nat → List Nat
 | 0 => [0]
 | 1 => [0]
 | 2 => [0,3]
 | 3 => [0,3,9,10,11]
 | 4 => [0,3,9,10,11]
 | 5 => [0,3,5,9,10,11]
 | 6 => [0,3,9,10,11]
 | 7 => [0,3,9,10,11]
 | 8 => [0,3,9,10,11]
 | 9 => [0,3]
 | 10 => [0,6]
 | 11 => [6,25,26,27]
 | 12 => [6,25,26,27]
 | 13 => [6,8,25,26,27]
 | 14 => [6,25,26,27]
 | 15 => [6]
 | _ => []
set_option maxRecDepth 100000 in
set_option maxHeartbeats 4000000 in
theorem jd (a b : List (List Int)) (h : a.length + b.length ≤ 1000) : AFn Tryz.prog 44 [.sl [.sl (a.map gD) a.length .none,.sl (b.map gD) b.length .none] 2 .full] [] (.sl ((a ++ b).map gD) (a ++ b).length .none) [] := by
 have hg := oq (a.length + b.length) h
 have u0 : IntKind.i64.wrap (0 + (a.length : Int)) = (a.length : Int) := by rw [bQ (by omega) (by omega)];omega
 have u1 : IntKind.i64.wrap ((a.length : Int) + (b.length : Int)) = ((a.length + b.length : Nat) : Int) := by rw [bQ (by omega) (by omega)];omega
 have n0 : ((a.length : Int) < 0) = False := eq_false (by omega)
 have n1 : (((a.length + b.length : Nat) : Int) < 0) = False := eq_false (by omega)
 have ui : IntKind.i64.wrap 1 = 1 := rfl
 have uj : IntKind.i64.wrap 2 = 2 := rfl
 rw [List.map_append,List.length_append]
 generalize hA : a.map gD = A
 generalize hB : b.map gD = B
 have lA : A.length = a.length := by rw [← hA,List.length_map]
 have lB : B.length = b.length := by rw [← hB,List.length_map]
 generalize a.length = na at *
 generalize b.length = nb at *
 clear hA hB
 refine bi [] Tryz.func44 rfl Tryz.ntmps44 (Nat.le_of_ble_eq_true rfl) (Nat.le_of_ble_eq_true rfl) fun w0 G0 B0 Pr hB0 => ?_
 simp only [bu,bf,List.cons_append,List.nil_append]
 repeat' (first | (with_reducible refine hY _ ?_;clear hY Y) | ((with_reducible first | refine aX rfl (aR fun K' hK' => aa ?_) | refine hK' _ (ab fun Y hY => aa ?_) | refine aZ rfl (ab fun Y hY => aa ?_) | refine ab fun Y hY => aa ?_ | refine aR fun K' hK' => aa ?_ | refine ae tk0 cU (ab fun Y hY => aa ?_) | refine aa ?_ | refine aA ?_ | refine aT rfl (aq fun K' hK' => aa ?_) | refine hK' _ _ (ab fun Y hY => aa ?_) | refine aS rfl (ab fun Y hY => aa ?_) | refine aq fun K' hK' => aa ?_ | refine aK ?_);(try clear hK' K');(try dsimp only [aop]);try simp only [go_sem,↓reduceIte,Nat.reduceEqDiff,Nat.reduceLT,Nat.reduceLeDiff,Nat.reduceAdd,Nat.reduceSub,Nat.reduceMul,Nat.reduceBEq,Nat.reduceBNe,Nat.reducePow,Int.reduceToNat,Int.reduceLE,Int.reduceLT,Int.reduceMul,Int.reduceEq,Int.reducePow,Int.reduceAdd,Int.reduceSub,Int.reduceNeg,reduceCtorEq,cU,Tryz.results44,u0,u1,n0,n1,ui,uj,lA,lB]) | (with_reducible first | refine av ?_ | refine an rfl ?_ | refine ap ?_ | refine ao ?_ | refine bk ?_ ?_ | refine aO ?_ | refine aN ?_ | refine bj fun K hK => ?_ | refine ay ?_ | refine az ?_ | refine aU ?_ | refine aQ ?_ | refine aC ?_ | refine aD ?_ | refine aF ?_ | refine aj ?_ | refine ax ?_ | refine aP ?_ | refine aE ?_ | refine aB ?_ | refine ag ?_ | refine af ?_ | refine al ?_ | refine bl fun K hK => ?_) | (with_reducible refine hK _ ?_;clear hK K) | (with_reducible refine hK _ _ ?_ ?_;(· kernel_rfl);clear hK K) | ((with_reducible first | refine aJ ?_ ?_ | refine ai ?_ ?_ | refine aG ?_ ?_);(· decide)) | (with_reducible refine ak tk0 cU ?_ ?_;(· kernel_rfl)) | ((with_reducible first | refine am (fun hc => ?_) (fun hc => ?_) | refine aH (fun hc => ?_) (fun hc => ?_)) <;> (try simp only [decide_eq_true_eq,decide_eq_false_iff_not,Bool.not_true,Bool.not_false,Bool.not_eq_true',Bool.not_eq_false'] at hc) <;> (try (exfalso;omega))) | (with_reducible refine aY ?_ ?_;(· (try and_intros) <;> first | omega | assumption | (simp only [List.length_append,List.length_map,List.length_cons,List.length_nil] <;> omega))) | (with_reducible refine au (hg) ?_) | ((with_reducible refine bV ?_)) | (with_reducible refine aI ?_) | fail)
 all_goals simp_all
end Go.Proofs.YtiiaokjgbjhfhaaGreatDoor
