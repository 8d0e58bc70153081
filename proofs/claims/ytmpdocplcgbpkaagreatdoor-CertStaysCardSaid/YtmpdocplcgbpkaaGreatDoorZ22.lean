/- Formulas in K: slices.ContainsFunc; deep, size, fine, Check. norm.Norm in K, of whatever formula. -/
import Derived.Test.YtmpdocplcgbpkaaGreatDoorZ9
import Derived.Test.YtmpdocplcgbpkaaGreatDoorZ15
import Derived.Test.YtmpdocplcgbpkaaGreatDoorZ10
import Derived.Test.YtmpdocplcgbpkaaGreatDoorZ20
namespace Go.Proofs.YtmpdocplcgbpkaaGreatDoor
set_option linter.unusedSimpArgs false
set_option linter.unusedVariables false
open Go.RowKit
def aY : Nat → List Nat
 | 0 => [0,1]
 | 1 => [0,1]
 | 2 => [0,1,7,8]
 | 3 => [0,1,7,8]
 | 4 => [0,1,5,7,8]
 | 5 => [5]
 | 6 => [0,1,7,8]
 | 7 => []
 | _ => []
def bW : Nat → List Nat
 | 0 => [0,1]
 | 1 => [0,1]
 | _ => []
set_option maxRecDepth 100000 in
set_option maxHeartbeats 8000000 in
theorem wh (l : List Fo) (F : Nat) (p : Fo → Bool) (hF : bx Tryz.prog F = true) (hl : Lg l) (h : ∀ y ∈ l,AFn Tryz.prog F [.agg (foA y)] [] (.c (.bool (p y))) []) :
  AFn Tryz.prog 101 [.sl (cU l) l.length .none,.fn (.func F) [] []] [] (inA (fiP p l)) [] := by
 unfold Lg at hl
 refine bm [] Tryz.func101 rfl Tryz.ntmps101 (Nat.le_of_ble_eq_true rfl) (Nat.le_of_ble_eq_true rfl) fun w0 G0 B0 Pr hB0 => ?_
 simp only [bD,bj,List.cons_append,List.nil_append]
 repeat' (first | (with_reducible refine hY _ ?_;clear hY Y) | ((with_reducible first | refine aX rfl (aR fun K' hK' => aa ?_) | refine hK' _ (ab fun Y hY => aa ?_) | refine ag tk0 aY (ab fun Y hY => aa ?_));(try clear hK' K');(try dsimp only [aop]);try simp only [go_sem,↓reduceIte,Nat.reduceEqDiff,Nat.reduceLT,Nat.reduceLeDiff,Nat.reduceAdd,Nat.reduceSub,Nat.reduceMul,Nat.reduceBEq,Nat.reduceBNe,Nat.reducePow,Int.reduceToNat,Int.reduceLE,Int.reduceLT,Int.reduceMul,Int.reduceEq,Int.reducePow,Int.reduceAdd,Int.reduceSub,Int.reduceNeg,reduceCtorEq,aY,Tryz.results101]) | (with_reducible first | refine aI ?_ | refine aP ?_ | refine aS ?_ | refine bi fun K hK => ?_ | refine ah ?_ | refine au ?_) | (with_reducible refine hK _ ?_;clear hK K))
 refine b7 (α := Nat) (fun k => [(0,.sl (cU l) l.length .none),(1,.fn (.func F) [] []),(7,inA (l.length : Int)),(8,inA (k : Int))])
  (fun k => k ≤ l.length ∧ ∀ j (hj : j < l.length),j < k → p l[j] = false) (fun k => l.length - k) 0 [0,1,7,8] ?_ ⟨Nat.zero_le _,fun j _ hj => absurd hj (Nat.not_lt_zero _)⟩ ?_
 ·simp only [go_sem,↓reduceIte,Nat.reduceEqDiff,Nat.reduceLT,Nat.reduceLeDiff,Nat.reduceAdd,Nat.reduceSub,Nat.reduceMul,Nat.reduceBEq,Nat.reduceBNe,Nat.reducePow,Int.reduceToNat,Int.reduceLE,Int.reduceLT,Int.reduceMul,Int.reduceEq,Int.reducePow,Int.reduceAdd,Int.reduceSub,Int.reduceNeg,reduceCtorEq] <;> rfl
 rintro k ⟨hk,hall⟩ ih
 by_cases hlt : k < l.length
 ·have hlt' : ((k : Int) < (l.length : Int)) = True := eq_true (by omega)
  have hkw := cC (n := k) (by omega)
  have h1 := h l[k] (List.getElem_mem hlt)
  have hg0 := fh hlt
  have hfl := dy l
  have hfi := kU (p := p) hlt hall
  have hnx : p l[k] = false → ∀ j (hj : j < l.length),j < k + 1 → p l[j] = false := fun e j hj hjk => by
   by_cases hj2 : j < k
   ·exact hall j hj hj2
   ·have : j = k := by omega
    subst this;exact e
  generalize l[k] = t at *
  generalize hp : p t = b at *
  obtain ⟨tk,tl,ts⟩ := t
  simp only [foA] at hg0 h1
  cases b with
  | true =>
   rw [hfi rfl]
   clear ih hfi hnx hall h
   repeat' (first | (with_reducible refine hY _ ?_;clear hY Y) | ((with_reducible first | refine aX rfl (aR fun K' hK' => aa ?_) | refine hK' _ (ab fun Y hY => aa ?_) | refine ab fun Y hY => aa ?_ | refine ag tk0 aY (ab fun Y hY => aa ?_) | refine aa ?_ | refine aH ?_);(try clear hK' K');(try dsimp only [aop]);try simp only [go_sem,↓reduceIte,Nat.reduceEqDiff,Nat.reduceLT,Nat.reduceLeDiff,Nat.reduceAdd,Nat.reduceSub,Nat.reduceMul,Nat.reduceBEq,Nat.reduceBNe,Nat.reducePow,Int.reduceToNat,Int.reduceLE,Int.reduceLT,Int.reduceMul,Int.reduceEq,Int.reducePow,Int.reduceAdd,Int.reduceSub,Int.reduceNeg,reduceCtorEq,aY,Tryz.results101,hlt',hfl,hg0,hkw,hF]) | (with_reducible first | refine aI ?_ | refine aP ?_ | refine aS ?_ | refine bi fun K hK => ?_ | refine aD ?_ | refine aQ ?_ | refine aA ?_ | refine ah ?_ | refine av ?_ | refine aL ?_) | (with_reducible refine hK _ ?_;clear hK K) | ((with_reducible refine ai ?_ ?_);(· decide)) | (with_reducible refine aV ?_ ?_;(· (try and_intros) <;> first | omega | assumption | (simp only [List.length_append,List.length_map,List.length_cons,List.length_nil] <;> omega))) | (with_reducible refine aK (h1) ?_))
  | false =>
   clear hfi
   repeat' (first | (with_reducible refine hY _ ?_;clear hY Y) | ((with_reducible first | refine aX rfl (aR fun K' hK' => aa ?_) | refine hK' _ (ab fun Y hY => aa ?_) | refine ab fun Y hY => aa ?_ | refine ag tk0 aY (ab fun Y hY => aa ?_) | refine aa ?_);(try clear hK' K');(try dsimp only [aop]);try simp only [go_sem,↓reduceIte,Nat.reduceEqDiff,Nat.reduceLT,Nat.reduceLeDiff,Nat.reduceAdd,Nat.reduceSub,Nat.reduceMul,Nat.reduceBEq,Nat.reduceBNe,Nat.reducePow,Int.reduceToNat,Int.reduceLE,Int.reduceLT,Int.reduceMul,Int.reduceEq,Int.reducePow,Int.reduceAdd,Int.reduceSub,Int.reduceNeg,reduceCtorEq,aY,Tryz.results101,hlt',hfl,hg0,hkw,hF]) | (with_reducible first | refine aI ?_ | refine aP ?_ | refine aS ?_ | refine bi fun K hK => ?_ | refine aD ?_ | refine aC ?_ | refine ay ?_ | refine ah ?_ | refine av ?_) | (with_reducible refine hK _ ?_;clear hK K) | ((with_reducible refine ai ?_ ?_);(· decide)) | (with_reducible refine aV ?_ ?_;(· (try and_intros) <;> first | omega | assumption | (simp only [List.length_append,List.length_map,List.length_cons,List.length_nil] <;> omega))) | (with_reducible refine aK (h1) ?_))
   refine bO [0,1,7,8] (by simp only [go_sem,↓reduceIte,Nat.reduceEqDiff,Nat.reduceLT,Nat.reduceLeDiff,Nat.reduceAdd,Nat.reduceSub,Nat.reduceMul,Nat.reduceBEq,Nat.reduceBNe,Nat.reducePow,Int.reduceToNat,Int.reduceLE,Int.reduceLT,Int.reduceMul,Int.reduceEq,Int.reducePow,Int.reduceAdd,Int.reduceSub,Int.reduceNeg,reduceCtorEq];exact rfl) ?_
   exact ih (k + 1) ⟨by omega,hnx rfl⟩ (by omega)
 ·have hlt' : ((k : Int) < (l.length : Int)) = False := eq_false (by omega)
  rw [kV fun j hj => hall j hj (by omega)]
  clear ih h hall
  repeat' (first | (with_reducible refine hY _ ?_;clear hY Y) | ((with_reducible first | refine aX rfl (aR fun K' hK' => aa ?_) | refine hK' _ (ab fun Y hY => aa ?_) | refine ab fun Y hY => aa ?_ | refine ag tk0 aY (ab fun Y hY => aa ?_) | refine aa ?_ | refine aH ?_);(try clear hK' K');(try dsimp only [aop]);try simp only [go_sem,↓reduceIte,Nat.reduceEqDiff,Nat.reduceLT,Nat.reduceLeDiff,Nat.reduceAdd,Nat.reduceSub,Nat.reduceMul,Nat.reduceBEq,Nat.reduceBNe,Nat.reducePow,Int.reduceToNat,Int.reduceLE,Int.reduceLT,Int.reduceMul,Int.reduceEq,Int.reducePow,Int.reduceAdd,Int.reduceSub,Int.reduceNeg,reduceCtorEq,aY,Tryz.results101,hlt']) | (with_reducible first | refine aI ?_ | refine aP ?_ | refine aS ?_ | refine bi fun K hK => ?_ | refine aC ?_ | refine aO ?_ | refine ax ?_ | refine aL ?_ | refine ar ?_) | (with_reducible refine hK _ ?_;clear hK K) | ((with_reducible refine ai ?_ ?_);(· decide)))
set_option maxRecDepth 100000 in
set_option maxHeartbeats 8000000 in
theorem wd (l : List Fo) (F : Nat) (p : Fo → Bool) (hF : bx Tryz.prog F = true) (hl : Lg l) (h : ∀ y ∈ l,AFn Tryz.prog F [.agg (foA y)] [] (.c (.bool (p y))) []) :
  AFn Tryz.prog 59 [.sl (cU l) l.length .none,.fn (.func F) [] []] [] (.c (.bool (l.any p))) [] := by
 have h1 := wh l F p hF hl h
 have h2 : decide (0 ≤ fiP p l) = l.any p := jI p l
 refine bm [] Tryz.func59 rfl Tryz.ntmps59 (Nat.le_of_ble_eq_true rfl) (Nat.le_of_ble_eq_true rfl) fun w0 G0 B0 Pr hB0 => ?_
 simp only [bD,bj,List.cons_append,List.nil_append]
 repeat' (first | (with_reducible refine hY _ ?_;clear hY Y) | ((with_reducible first | refine aX rfl (aR fun K' hK' => aa ?_) | refine hK' _ (ab fun Y hY => aa ?_) | refine ag tk0 bW (ab fun Y hY => aa ?_) | refine aa ?_ | refine aH ?_);(try clear hK' K');(try dsimp only [aop]);try simp only [go_sem,↓reduceIte,Nat.reduceEqDiff,Nat.reduceLT,Nat.reduceLeDiff,Nat.reduceAdd,Nat.reduceSub,Nat.reduceMul,Nat.reduceBEq,Nat.reduceBNe,Nat.reducePow,Int.reduceToNat,Int.reduceLE,Int.reduceLT,Int.reduceMul,Int.reduceEq,Int.reducePow,Int.reduceAdd,Int.reduceSub,Int.reduceNeg,reduceCtorEq,bW,Tryz.results59,h2]) | (with_reducible first | refine aI ?_ | refine aP ?_ | refine aS ?_ | refine bi fun K hK => ?_ | refine aL ?_) | (with_reducible refine hK _ ?_;clear hK K) | (with_reducible refine aK (h1) ?_))
set_option maxRecDepth 100000 in
set_option maxHeartbeats 8000000 in
theorem wi (l : List Fo) (F : Nat) (cc : List AV) (p : Fo → Bool) (hF : bx Tryz.prog F = true) (hl : Lg l) (h : ∀ y ∈ l,AFn Tryz.prog F [.agg (foA y),.rf cc 0] [] (.c (.bool (p y))) []) :
  AFn Tryz.prog 101 [.sl (cU l) l.length .none,.fn (.func F) [] [.rf cc 0]] [] (inA (fiP p l)) [] := by
 unfold Lg at hl
 refine bm [] Tryz.func101 rfl Tryz.ntmps101 (Nat.le_of_ble_eq_true rfl) (Nat.le_of_ble_eq_true rfl) fun w0 G0 B0 Pr hB0 => ?_
 simp only [bD,bj,List.cons_append,List.nil_append]
 repeat' (first | (with_reducible refine hY _ ?_;clear hY Y) | ((with_reducible first | refine aX rfl (aR fun K' hK' => aa ?_) | refine hK' _ (ab fun Y hY => aa ?_) | refine ag tk0 aY (ab fun Y hY => aa ?_));(try clear hK' K');(try dsimp only [aop]);try simp only [go_sem,↓reduceIte,Nat.reduceEqDiff,Nat.reduceLT,Nat.reduceLeDiff,Nat.reduceAdd,Nat.reduceSub,Nat.reduceMul,Nat.reduceBEq,Nat.reduceBNe,Nat.reducePow,Int.reduceToNat,Int.reduceLE,Int.reduceLT,Int.reduceMul,Int.reduceEq,Int.reducePow,Int.reduceAdd,Int.reduceSub,Int.reduceNeg,reduceCtorEq,aY,Tryz.results101]) | (with_reducible first | refine aI ?_ | refine aP ?_ | refine aS ?_ | refine bi fun K hK => ?_ | refine ah ?_ | refine au ?_) | (with_reducible refine hK _ ?_;clear hK K))
 refine b7 (α := Nat) (fun k => [(0,.sl (cU l) l.length .none),(1,.fn (.func F) [] [.rf cc 0]),(7,inA (l.length : Int)),(8,inA (k : Int))])
  (fun k => k ≤ l.length ∧ ∀ j (hj : j < l.length),j < k → p l[j] = false) (fun k => l.length - k) 0 [0,1,7,8] ?_ ⟨Nat.zero_le _,fun j _ hj => absurd hj (Nat.not_lt_zero _)⟩ ?_
 ·simp only [go_sem,↓reduceIte,Nat.reduceEqDiff,Nat.reduceLT,Nat.reduceLeDiff,Nat.reduceAdd,Nat.reduceSub,Nat.reduceMul,Nat.reduceBEq,Nat.reduceBNe,Nat.reducePow,Int.reduceToNat,Int.reduceLE,Int.reduceLT,Int.reduceMul,Int.reduceEq,Int.reducePow,Int.reduceAdd,Int.reduceSub,Int.reduceNeg,reduceCtorEq] <;> rfl
 rintro k ⟨hk,hall⟩ ih
 by_cases hlt : k < l.length
 ·have hlt' : ((k : Int) < (l.length : Int)) = True := eq_true (by omega)
  have hkw := cC (n := k) (by omega)
  have h1 := h l[k] (List.getElem_mem hlt)
  have hg0 := fh hlt
  have hfl := dy l
  have hfi := kU (p := p) hlt hall
  have hnx : p l[k] = false → ∀ j (hj : j < l.length),j < k + 1 → p l[j] = false := fun e j hj hjk => by
   by_cases hj2 : j < k
   ·exact hall j hj hj2
   ·have : j = k := by omega
    subst this;exact e
  generalize l[k] = t at *
  generalize hp : p t = b at *
  obtain ⟨tk,tl,ts⟩ := t
  simp only [foA] at hg0 h1
  cases b with
  | true =>
   rw [hfi rfl]
   clear ih hfi hnx hall h
   repeat' (first | (with_reducible refine hY _ ?_;clear hY Y) | ((with_reducible first | refine aX rfl (aR fun K' hK' => aa ?_) | refine hK' _ (ab fun Y hY => aa ?_) | refine ab fun Y hY => aa ?_ | refine ag tk0 aY (ab fun Y hY => aa ?_) | refine aa ?_ | refine aH ?_);(try clear hK' K');(try dsimp only [aop]);try simp only [go_sem,↓reduceIte,Nat.reduceEqDiff,Nat.reduceLT,Nat.reduceLeDiff,Nat.reduceAdd,Nat.reduceSub,Nat.reduceMul,Nat.reduceBEq,Nat.reduceBNe,Nat.reducePow,Int.reduceToNat,Int.reduceLE,Int.reduceLT,Int.reduceMul,Int.reduceEq,Int.reducePow,Int.reduceAdd,Int.reduceSub,Int.reduceNeg,reduceCtorEq,aY,Tryz.results101,hlt',hfl,hg0,hkw,hF]) | (with_reducible first | refine aI ?_ | refine aP ?_ | refine aS ?_ | refine bi fun K hK => ?_ | refine aD ?_ | refine aQ ?_ | refine aA ?_ | refine ah ?_ | refine av ?_ | refine aL ?_) | (with_reducible refine hK _ ?_;clear hK K) | ((with_reducible refine ai ?_ ?_);(· decide)) | (with_reducible refine aV ?_ ?_;(· (try and_intros) <;> first | omega | assumption | (simp only [List.length_append,List.length_map,List.length_cons,List.length_nil] <;> omega))) | (with_reducible refine aK (h1) ?_))
  | false =>
   clear hfi
   repeat' (first | (with_reducible refine hY _ ?_;clear hY Y) | ((with_reducible first | refine aX rfl (aR fun K' hK' => aa ?_) | refine hK' _ (ab fun Y hY => aa ?_) | refine ab fun Y hY => aa ?_ | refine ag tk0 aY (ab fun Y hY => aa ?_) | refine aa ?_);(try clear hK' K');(try dsimp only [aop]);try simp only [go_sem,↓reduceIte,Nat.reduceEqDiff,Nat.reduceLT,Nat.reduceLeDiff,Nat.reduceAdd,Nat.reduceSub,Nat.reduceMul,Nat.reduceBEq,Nat.reduceBNe,Nat.reducePow,Int.reduceToNat,Int.reduceLE,Int.reduceLT,Int.reduceMul,Int.reduceEq,Int.reducePow,Int.reduceAdd,Int.reduceSub,Int.reduceNeg,reduceCtorEq,aY,Tryz.results101,hlt',hfl,hg0,hkw,hF]) | (with_reducible first | refine aI ?_ | refine aP ?_ | refine aS ?_ | refine bi fun K hK => ?_ | refine aD ?_ | refine aC ?_ | refine ay ?_ | refine ah ?_ | refine av ?_) | (with_reducible refine hK _ ?_;clear hK K) | ((with_reducible refine ai ?_ ?_);(· decide)) | (with_reducible refine aV ?_ ?_;(· (try and_intros) <;> first | omega | assumption | (simp only [List.length_append,List.length_map,List.length_cons,List.length_nil] <;> omega))) | (with_reducible refine aK (h1) ?_))
   refine bO [0,1,7,8] (by simp only [go_sem,↓reduceIte,Nat.reduceEqDiff,Nat.reduceLT,Nat.reduceLeDiff,Nat.reduceAdd,Nat.reduceSub,Nat.reduceMul,Nat.reduceBEq,Nat.reduceBNe,Nat.reducePow,Int.reduceToNat,Int.reduceLE,Int.reduceLT,Int.reduceMul,Int.reduceEq,Int.reducePow,Int.reduceAdd,Int.reduceSub,Int.reduceNeg,reduceCtorEq];exact rfl) ?_
   exact ih (k + 1) ⟨by omega,hnx rfl⟩ (by omega)
 ·have hlt' : ((k : Int) < (l.length : Int)) = False := eq_false (by omega)
  rw [kV fun j hj => hall j hj (by omega)]
  clear ih h hall
  repeat' (first | (with_reducible refine hY _ ?_;clear hY Y) | ((with_reducible first | refine aX rfl (aR fun K' hK' => aa ?_) | refine hK' _ (ab fun Y hY => aa ?_) | refine ab fun Y hY => aa ?_ | refine ag tk0 aY (ab fun Y hY => aa ?_) | refine aa ?_ | refine aH ?_);(try clear hK' K');(try dsimp only [aop]);try simp only [go_sem,↓reduceIte,Nat.reduceEqDiff,Nat.reduceLT,Nat.reduceLeDiff,Nat.reduceAdd,Nat.reduceSub,Nat.reduceMul,Nat.reduceBEq,Nat.reduceBNe,Nat.reducePow,Int.reduceToNat,Int.reduceLE,Int.reduceLT,Int.reduceMul,Int.reduceEq,Int.reducePow,Int.reduceAdd,Int.reduceSub,Int.reduceNeg,reduceCtorEq,aY,Tryz.results101,hlt']) | (with_reducible first | refine aI ?_ | refine aP ?_ | refine aS ?_ | refine bi fun K hK => ?_ | refine aC ?_ | refine aO ?_ | refine ax ?_ | refine aL ?_ | refine ar ?_) | (with_reducible refine hK _ ?_;clear hK K) | ((with_reducible refine ai ?_ ?_);(· decide)))
set_option maxRecDepth 100000 in
set_option maxHeartbeats 8000000 in
theorem we (l : List Fo) (F : Nat) (cc : List AV) (p : Fo → Bool) (hF : bx Tryz.prog F = true) (hl : Lg l) (h : ∀ y ∈ l,AFn Tryz.prog F [.agg (foA y),.rf cc 0] [] (.c (.bool (p y))) []) :
  AFn Tryz.prog 59 [.sl (cU l) l.length .none,.fn (.func F) [] [.rf cc 0]] [] (.c (.bool (l.any p))) [] := by
 have h1 := wi l F cc p hF hl h
 have h2 : decide (0 ≤ fiP p l) = l.any p := jI p l
 refine bm [] Tryz.func59 rfl Tryz.ntmps59 (Nat.le_of_ble_eq_true rfl) (Nat.le_of_ble_eq_true rfl) fun w0 G0 B0 Pr hB0 => ?_
 simp only [bD,bj,List.cons_append,List.nil_append]
 repeat' (first | (with_reducible refine hY _ ?_;clear hY Y) | ((with_reducible first | refine aX rfl (aR fun K' hK' => aa ?_) | refine hK' _ (ab fun Y hY => aa ?_) | refine ag tk0 bW (ab fun Y hY => aa ?_) | refine aa ?_ | refine aH ?_);(try clear hK' K');(try dsimp only [aop]);try simp only [go_sem,↓reduceIte,Nat.reduceEqDiff,Nat.reduceLT,Nat.reduceLeDiff,Nat.reduceAdd,Nat.reduceSub,Nat.reduceMul,Nat.reduceBEq,Nat.reduceBNe,Nat.reducePow,Int.reduceToNat,Int.reduceLE,Int.reduceLT,Int.reduceMul,Int.reduceEq,Int.reducePow,Int.reduceAdd,Int.reduceSub,Int.reduceNeg,reduceCtorEq,bW,Tryz.results59,h2]) | (with_reducible first | refine aI ?_ | refine aP ?_ | refine aS ?_ | refine bi fun K hK => ?_ | refine aL ?_) | (with_reducible refine hK _ ?_;clear hK K) | (with_reducible refine aK (h1) ?_))
def cD : Nat → List Nat
 | 0 => [0,1]
 | 1 => [2,3]
 | _ => []
def dM : Nat → List Nat
 | 0 => [0,1]
 | 1 => [1,2]
 | _ => []
set_option maxRecDepth 100000 in
set_option maxHeartbeats 8000000 in
theorem t6 : ∀ (b : Nat) (z : Int),z = (b : Int) → b ≤ 1000 → ∀ f,OkF f → AFn Tryz.prog 56 [.agg (foA f),inA z] [] (.c (.bool (f5 b f))) []
 | 0,z,hz,_,.mk k l ks,_ => by
  subst hz
  rw [foA]
  show AFn _ _ _ _ (.c (.bool true)) _
  refine bm [] Tryz.func56 rfl Tryz.ntmps56 (Nat.le_of_ble_eq_true rfl) (Nat.le_of_ble_eq_true rfl) fun w0 G0 B0 Pr hB0 => ?_
  simp only [bD,bj,List.cons_append,List.nil_append]
  repeat' (first | (with_reducible refine hY _ ?_;clear hY Y) | ((with_reducible first | refine aX rfl (aR fun K' hK' => aa ?_) | refine hK' _ (ab fun Y hY => aa ?_) | refine aW rfl (ab fun Y hY => aa ?_) | refine ab fun Y hY => aa ?_ | refine ag tk0 cD (ab fun Y hY => aa ?_) | refine aa ?_ | refine aH ?_);(try clear hK' K');(try dsimp only [aop]);try simp only [go_sem,↓reduceIte,Nat.reduceEqDiff,Nat.reduceLT,Nat.reduceLeDiff,Nat.reduceAdd,Nat.reduceSub,Nat.reduceMul,Nat.reduceBEq,Nat.reduceBNe,Nat.reducePow,Int.reduceToNat,Int.reduceLE,Int.reduceLT,Int.reduceMul,Int.reduceEq,Int.reducePow,Int.reduceAdd,Int.reduceSub,Int.reduceNeg,reduceCtorEq,cD,Tryz.results56]) | (with_reducible first | refine aI ?_ | refine am rfl ?_ | refine bg ?_ ?_ | refine aP ?_ | refine aS ?_ | refine bi fun K hK => ?_ | refine aL ?_) | (with_reducible refine hK _ ?_;clear hK K) | ((with_reducible refine aF ?_ ?_);(· decide)))
 | b + 1,z,hz,hb,.mk k l ks,hok => by
  have ih := t6 b (z - 1) (by omega) (by omega)
  have hw : IntKind.i64.wrap (z - 1) = z - 1 := bQ (by omega) (by omega)
  have hz1 : (z < 1) = False := eq_false (by omega)
  have hcl : ∀ y ∈ ks,AFn Tryz.prog 99 [.agg (foA y),.rf [inA z] 0] [] (.c (.bool (f5 b y))) [] := fun y hy => by
   have h1 := ih y (g6 hok.2.2 y hy)
   clear ih
   obtain ⟨yk,yl,ys⟩ := y
   simp only [foA] at h1 ⊢
   refine bm [] Tryz.func99 rfl Tryz.ntmps99 (Nat.le_of_ble_eq_true rfl) (Nat.le_of_ble_eq_true rfl) fun w0 G0 B0 Pr hB0 => ?_
   simp only [bD,bj,List.cons_append,List.nil_append]
   repeat' (first | (with_reducible refine hY _ ?_;clear hY Y) | ((with_reducible first | refine aX rfl (aR fun K' hK' => aa ?_) | refine hK' _ (ab fun Y hY => aa ?_) | refine ag tk0 dM (ab fun Y hY => aa ?_) | refine aa ?_ | refine aH ?_);(try clear hK' K');(try dsimp only [aop]);try simp only [go_sem,↓reduceIte,Nat.reduceEqDiff,Nat.reduceLT,Nat.reduceLeDiff,Nat.reduceAdd,Nat.reduceSub,Nat.reduceMul,Nat.reduceBEq,Nat.reduceBNe,Nat.reducePow,Int.reduceToNat,Int.reduceLE,Int.reduceLT,Int.reduceMul,Int.reduceEq,Int.reducePow,Int.reduceAdd,Int.reduceSub,Int.reduceNeg,reduceCtorEq,dM,Tryz.results99,hw]) | (with_reducible first | refine aI ?_ | refine aP ?_ | refine aS ?_ | refine bi fun K hK => ?_ | refine aL ?_) | (with_reducible refine hK _ ?_;clear hK K) | (with_reducible refine aK (h1) ?_))
  have hc := we ks 99 [inA z] (f5 b) (by kernel_rfl) hok.2.1 hcl
  rw [f5,foA]
  show AFn _ _ _ _ (.c (.bool (ks.any (f5 b)))) _
  clear ih hcl
  generalize ks.any (f5 b) = R at *
  generalize cU ks = KS at *
  refine bm [] Tryz.func56 rfl Tryz.ntmps56 (Nat.le_of_ble_eq_true rfl) (Nat.le_of_ble_eq_true rfl) fun w0 G0 B0 Pr hB0 => ?_
  simp only [bD,bj,List.cons_append,List.nil_append]
  repeat' (first | (with_reducible refine hY _ ?_;clear hY Y) | ((with_reducible first | refine aX rfl (aR fun K' hK' => aa ?_) | refine hK' _ (ab fun Y hY => aa ?_));(try clear hK' K');(try dsimp only [aop]);try simp only [go_sem,↓reduceIte,Nat.reduceEqDiff,Nat.reduceLT,Nat.reduceLeDiff,Nat.reduceAdd,Nat.reduceSub,Nat.reduceMul,Nat.reduceBEq,Nat.reduceBNe,Nat.reducePow,Int.reduceToNat,Int.reduceLE,Int.reduceLT,Int.reduceMul,Int.reduceEq,Int.reducePow,Int.reduceAdd,Int.reduceSub,Int.reduceNeg,reduceCtorEq,cD,Tryz.results56]) | (with_reducible first | refine aI ?_ | refine aP ?_ | refine bi fun K hK => ?_) | ((with_reducible refine cS 1 ?_ ?_);(· rfl)) | ((with_reducible refine ca 1 tk0 cD ?_ (ab fun Y hY => aa ?_));(· rfl);(try dsimp only [aop]);try simp only [go_sem,↓reduceIte,Nat.reduceEqDiff,Nat.reduceLT,Nat.reduceLeDiff,Nat.reduceAdd,Nat.reduceSub,Nat.reduceMul,Nat.reduceBEq,Nat.reduceBNe,Nat.reducePow,Int.reduceToNat,Int.reduceLE,Int.reduceLT,Int.reduceMul,Int.reduceEq,Int.reducePow,Int.reduceAdd,Int.reduceSub,Int.reduceNeg,reduceCtorEq,cD,Tryz.results56]) | (with_reducible refine hK _ ?_;clear hK K))
  refine tV 10003 ⟨by decide,by decide⟩ rfl rfl (by simp only [go_sem,↓reduceIte,Nat.reduceEqDiff,Nat.reduceLT,Nat.reduceLeDiff,Nat.reduceAdd,Nat.reduceSub,Nat.reduceMul,Nat.reduceBEq,Nat.reduceBNe,Nat.reducePow,Int.reduceToNat,Int.reduceLE,Int.reduceLT,Int.reduceMul,Int.reduceEq,Int.reducePow,Int.reduceAdd,Int.reduceSub,Int.reduceNeg,reduceCtorEq];exact rfl) (by simp only [go_sem,↓reduceIte,Nat.reduceEqDiff,Nat.reduceLT,Nat.reduceLeDiff,Nat.reduceAdd,Nat.reduceSub,Nat.reduceMul,Nat.reduceBEq,Nat.reduceBNe,Nat.reducePow,Int.reduceToNat,Int.reduceLE,Int.reduceLT,Int.reduceMul,Int.reduceEq,Int.reducePow,Int.reduceAdd,Int.reduceSub,Int.reduceNeg,reduceCtorEq];exact rfl) ?_
  repeat' (first | (with_reducible refine hY _ ?_;clear hY Y) | ((with_reducible first | refine aX rfl (aR fun K' hK' => aa ?_) | refine hK' _ (ab fun Y hY => aa ?_) | refine aW rfl (ab fun Y hY => aa ?_) | refine ab fun Y hY => aa ?_ | refine aR fun K' hK' => aa ?_ | refine ag tk0 cD (ab fun Y hY => aa ?_) | refine aa ?_ | refine aH ?_);(try clear hK' K');(try dsimp only [aop]);try simp only [go_sem,↓reduceIte,Nat.reduceEqDiff,Nat.reduceLT,Nat.reduceLeDiff,Nat.reduceAdd,Nat.reduceSub,Nat.reduceMul,Nat.reduceBEq,Nat.reduceBNe,Nat.reducePow,Int.reduceToNat,Int.reduceLE,Int.reduceLT,Int.reduceMul,Int.reduceEq,Int.reducePow,Int.reduceAdd,Int.reduceSub,Int.reduceNeg,reduceCtorEq,cD,Tryz.results56,hz1]) | (with_reducible first | refine aI ?_ | refine ao ?_ | refine aP ?_ | refine aS ?_ | refine bi fun K hK => ?_ | refine aL ?_) | (with_reducible refine hK _ ?_;clear hK K) | ((with_reducible refine aF ?_ ?_);(· decide)) | (with_reducible refine aK (hc) ?_))
def co : Nat → List Nat
 | 0 => [0]
 | 1 => [1]
 | 2 => [1,3]
 | 3 => [1,3,4]
 | 4 => [1,3,4]
 | 5 => [1,3,4]
 | 6 => [3]
 | _ => []
theorem p7 : ∀ (a b : List Fo) (n : Nat),n ≤ 4096 → d4 a n ≤ 4096 → d4 (a ++ b) n = d4 b (d4 a n)
 | [],b,n,_,_ => rfl
 | f :: r,b,n,h,h2 => by
  rw [List.cons_append,d4,d4,if_pos h,if_pos h]
  rw [d4,if_pos h] at h2
  by_cases h3 : n + szF f ≤ 4096
  ·exact p7 r b _ h3 h2
  ·have : ∀ l : List Fo,d4 l (n + szF f) = n + szF f := fun l => by cases l with
    | nil => rfl
    | cons x y => rw [d4,if_neg h3]
   rw [this] at h2;omega
theorem tA {ks : List Fo} {k : Nat} {n : Nat} (h : k < ks.length) (hn : n ≤ 4096) (h2 : d4 (ks.take k) n ≤ 4096) : d4 (ks.take (k + 1)) n = d4 (ks.take k) n + szF ks[k] := by
 rw [List.take_succ_eq_append_getElem h,p7 _ _ _ hn h2,d4,if_pos h2];rfl
theorem nx : ∀ (a b : List Fo) (n : Nat),4096 < d4 a n → d4 (a ++ b) n = d4 a n
 | [],b,n,h => by cases b with
  | nil => rfl
  | cons x y =>
   have h0 : d4 [] n = n := rfl
   rw [h0] at h ⊢
   rw [List.nil_append,d4,if_neg (by omega)]
 | f :: r,b,n,h => by
  rw [List.cons_append,d4,d4]
  rw [d4] at h
  by_cases h1 : n ≤ 4096
  ·rw [if_pos h1] at h ⊢;rw [if_pos h1];exact nx r b _ h
  ·rw [if_neg h1,if_neg h1]
set_option maxRecDepth 100000 in
set_option maxHeartbeats 8000000 in
theorem u6 : ∀ (b : Nat),b ≤ 1000 → ∀ f,OkF f → f5 b f = false → AFn Tryz.prog 57 [.agg (foA f)] [] (inA (szF f : Int)) []
 | 0,_,f,_,hd => by simp [f5] at hd
 | b + 1,hb,.mk k l ks,hok,hd => by
  have ih := u6 b (by omega)
  rw [f5,List.any_eq_false] at hd
  have hds : ∀ y ∈ ks,f5 b y = false := fun y hy => by simpa using hd y hy
  have hlg := hok.2.1
  unfold Lg at hlg
  rw [foA,szF]
  refine bm [] Tryz.func57 rfl Tryz.ntmps57 (Nat.le_of_ble_eq_true rfl) (Nat.le_of_ble_eq_true rfl) fun w0 G0 B0 Pr hB0 => ?_
  simp only [bD,bj,List.cons_append,List.nil_append]
  repeat' (first | (with_reducible refine hY _ ?_;clear hY Y) | ((with_reducible first | refine aX rfl (aR fun K' hK' => aa ?_) | refine hK' _ (ab fun Y hY => aa ?_) | refine ag tk0 co (ab fun Y hY => aa ?_));(try clear hK' K');(try dsimp only [aop]);try simp only [go_sem,↓reduceIte,Nat.reduceEqDiff,Nat.reduceLT,Nat.reduceLeDiff,Nat.reduceAdd,Nat.reduceSub,Nat.reduceMul,Nat.reduceBEq,Nat.reduceBNe,Nat.reducePow,Int.reduceToNat,Int.reduceLE,Int.reduceLT,Int.reduceMul,Int.reduceEq,Int.reducePow,Int.reduceAdd,Int.reduceSub,Int.reduceNeg,reduceCtorEq,co,Tryz.results57]) | (with_reducible first | refine aI ?_ | refine aP ?_ | refine aS ?_ | refine bi fun K hK => ?_ | refine ah ?_ | refine au ?_) | (with_reducible refine hK _ ?_;clear hK K))
  refine b7 (α := Nat) (fun j => [(1,.loc 10001 0),(3,inA (d4 (ks.take j) 1 : Int)),(4,inA (j : Int)),(10001,.bc [inA k,inA l.c,.sl (bn l.t) l.t.length .none,.sl (cU ks) ks.length .none] 27)])
   (fun j => j ≤ ks.length) (fun j => ks.length - j) 0 [1,3,4] ?_ (Nat.zero_le _) ?_
  ·simp only [go_sem,↓reduceIte,Nat.reduceEqDiff,Nat.reduceLT,Nat.reduceLeDiff,Nat.reduceAdd,Nat.reduceSub,Nat.reduceMul,Nat.reduceBEq,Nat.reduceBNe,Nat.reducePow,Int.reduceToNat,Int.reduceLE,Int.reduceLT,Int.reduceMul,Int.reduceEq,Int.reducePow,Int.reduceAdd,Int.reduceSub,Int.reduceNeg,reduceCtorEq] <;> rfl
  intro j hj ihj
  by_cases hlt : j < ks.length
  ·have hlt' : ((j : Int) < (ks.length : Int)) = True := eq_true (by omega)
   by_cases hs : d4 (ks.take j) 1 ≤ 4096
   ·have hs' : ((d4 (ks.take j) 1 : Int) ≤ 4096) = True := eq_true (by omega)
    have hkw := cC (n := j) (by omega)
    have hg0 := fh hlt
    have hfl := dy ks
    have h1 := ih ks[j] (g6 hok.2.2 _ (List.getElem_mem hlt)) (hds _ (List.getElem_mem hlt))
    have hle := vl b ks[j] (hds _ (List.getElem_mem hlt))
    have ihj' := ihj (j + 1) (by omega) (by omega)
    rw [tA hlt (by decide) hs] at ihj'
    clear ihj ih hds hd hok
    generalize ks[j] = t at *
    obtain ⟨tk,tl,ts⟩ := t
    simp only [foA] at hg0 h1
    generalize szF (.mk tk tl ts) = S at *
    generalize d4 (ks.take j) 1 = N at *
    generalize cU ks = KS at *
    have hw : IntKind.i64.wrap ((N : Int) + (S : Int)) = ((N + S : Nat) : Int) := by rw [bQ (by omega) (by omega)];omega
    repeat' (first | (with_reducible refine hY _ ?_;clear hY Y) | ((with_reducible first | refine aX rfl (aR fun K' hK' => aa ?_) | refine hK' _ (ab fun Y hY => aa ?_) | refine aW rfl (ab fun Y hY => aa ?_) | refine ab fun Y hY => aa ?_ | refine aR fun K' hK' => aa ?_ | refine ag tk0 co (ab fun Y hY => aa ?_) | refine aa ?_);(try clear hK' K');(try dsimp only [aop]);try simp only [go_sem,↓reduceIte,Nat.reduceEqDiff,Nat.reduceLT,Nat.reduceLeDiff,Nat.reduceAdd,Nat.reduceSub,Nat.reduceMul,Nat.reduceBEq,Nat.reduceBNe,Nat.reducePow,Int.reduceToNat,Int.reduceLE,Int.reduceLT,Int.reduceMul,Int.reduceEq,Int.reducePow,Int.reduceAdd,Int.reduceSub,Int.reduceNeg,reduceCtorEq,co,Tryz.results57,hlt',hs',hfl,hg0,hkw,hw]) | (with_reducible first | refine aI ?_ | refine ao ?_ | refine aP ?_ | refine aS ?_ | refine bi fun K hK => ?_ | refine aD ?_ | refine ay ?_ | refine ah ?_ | refine av ?_) | (with_reducible refine hK _ ?_;clear hK K) | ((with_reducible first | refine aF ?_ ?_ | refine ai ?_ ?_);(· decide)) | (with_reducible refine aV ?_ ?_;(· (try and_intros) <;> first | omega | assumption | (simp only [List.length_append,List.length_map,List.length_cons,List.length_nil] <;> omega))) | (with_reducible refine aK (h1) ?_))
    refine bO [1,3,4] (by simp only [go_sem,↓reduceIte,Nat.reduceEqDiff,Nat.reduceLT,Nat.reduceLeDiff,Nat.reduceAdd,Nat.reduceSub,Nat.reduceMul,Nat.reduceBEq,Nat.reduceBNe,Nat.reducePow,Int.reduceToNat,Int.reduceLE,Int.reduceLT,Int.reduceMul,Int.reduceEq,Int.reducePow,Int.reduceAdd,Int.reduceSub,Int.reduceNeg,reduceCtorEq];exact rfl) ?_
    exact ihj'
   ·have hs' : ((d4 (ks.take j) 1 : Int) ≤ 4096) = False := eq_false (by omega)
    have he : d4 ks 1 = d4 (ks.take j) 1 := by
     have := nx (ks.take j) (ks.drop j) 1 (by omega)
     rwa [List.take_append_drop] at this
    rw [he]
    clear ihj ih hds hd hok he
    generalize d4 (ks.take j) 1 = N at *
    generalize cU ks = KS at *
    repeat' (first | (with_reducible refine hY _ ?_;clear hY Y) | ((with_reducible first | refine aX rfl (aR fun K' hK' => aa ?_) | refine hK' _ (ab fun Y hY => aa ?_) | refine aW rfl (ab fun Y hY => aa ?_) | refine ab fun Y hY => aa ?_ | refine aR fun K' hK' => aa ?_ | refine ag tk0 co (ab fun Y hY => aa ?_) | refine aa ?_ | refine aH ?_);(try clear hK' K');(try dsimp only [aop]);try simp only [go_sem,↓reduceIte,Nat.reduceEqDiff,Nat.reduceLT,Nat.reduceLeDiff,Nat.reduceAdd,Nat.reduceSub,Nat.reduceMul,Nat.reduceBEq,Nat.reduceBNe,Nat.reducePow,Int.reduceToNat,Int.reduceLE,Int.reduceLT,Int.reduceMul,Int.reduceEq,Int.reducePow,Int.reduceAdd,Int.reduceSub,Int.reduceNeg,reduceCtorEq,co,Tryz.results57,hlt',hs']) | (with_reducible first | refine aI ?_ | refine ao ?_ | refine aP ?_ | refine aS ?_ | refine bi fun K hK => ?_ | refine aC ?_ | refine aO ?_ | refine ax ?_ | refine aL ?_ | refine ar ?_) | (with_reducible refine hK _ ?_;clear hK K) | ((with_reducible first | refine aF ?_ ?_ | refine ai ?_ ?_);(· decide)))
  ·have hlt' : ((j : Int) < (ks.length : Int)) = False := eq_false (by omega)
   rw [List.take_of_length_le (by omega)]
   clear ihj ih hds hd hok
   generalize d4 ks 1 = N at *
   generalize cU ks = KS at *
   repeat' (first | (with_reducible refine hY _ ?_;clear hY Y) | ((with_reducible first | refine aX rfl (aR fun K' hK' => aa ?_) | refine hK' _ (ab fun Y hY => aa ?_) | refine aW rfl (ab fun Y hY => aa ?_) | refine ab fun Y hY => aa ?_ | refine ag tk0 co (ab fun Y hY => aa ?_) | refine aa ?_ | refine aH ?_);(try clear hK' K');(try dsimp only [aop]);try simp only [go_sem,↓reduceIte,Nat.reduceEqDiff,Nat.reduceLT,Nat.reduceLeDiff,Nat.reduceAdd,Nat.reduceSub,Nat.reduceMul,Nat.reduceBEq,Nat.reduceBNe,Nat.reducePow,Int.reduceToNat,Int.reduceLE,Int.reduceLT,Int.reduceMul,Int.reduceEq,Int.reducePow,Int.reduceAdd,Int.reduceSub,Int.reduceNeg,reduceCtorEq,co,Tryz.results57,hlt']) | (with_reducible first | refine aI ?_ | refine am rfl ?_ | refine bg ?_ ?_ | refine aP ?_ | refine aS ?_ | refine bi fun K hK => ?_ | refine aC ?_ | refine aO ?_ | refine ax ?_ | refine aL ?_ | refine ar ?_) | (with_reducible refine hK _ ?_;clear hK K) | ((with_reducible first | refine aF ?_ ?_ | refine ai ?_ ?_);(· decide)))
def bf : Nat → List Nat
 | 0 => [0]
 | 1 => [1]
 | 2 => [1,3]
 | 3 => []
 | 4 => [1,3,16]
 | 5 => [1,3,16]
 | 6 => [1,3]
 | 7 => [1,3,16]
 | 8 => [1,3,16]
 | 9 => [1]
 | 10 => [1,3,16]
 | 11 => [1,3]
 | 12 => []
 | 13 => [1,3,16]
 | 14 => [1,3,16]
 | 15 => [1,3]
 | _ => []
def dN : Nat → List Nat
 | 0 => [0]
 | 1 => [1]
 | _ => []
set_option maxRecDepth 100000 in
set_option maxHeartbeats 16000000 in
theorem ym : ∀ f,OkF f → AFn Tryz.prog 58 [.agg (foA f)] [] (.c (.bool (f7 f))) [] :=
 im fun k l ks hlt hlk hoks ih => by
  have hcl : ∀ y ∈ ks,AFn Tryz.prog 100 [.agg (foA y)] [] (.c (.bool (!f7 y))) [] := fun y hy => by
   have h1 := ih y hy
   clear ih
   generalize f7 y = R at *
   obtain ⟨yk,yl,ys⟩ := y
   simp only [foA] at h1 ⊢
   refine bm [] Tryz.func100 rfl Tryz.ntmps100 (Nat.le_of_ble_eq_true rfl) (Nat.le_of_ble_eq_true rfl) fun w0 G0 B0 Pr hB0 => ?_
   simp only [bD,bj,List.cons_append,List.nil_append]
   repeat' (first | (with_reducible refine hY _ ?_;clear hY Y) | ((with_reducible first | refine aX rfl (aR fun K' hK' => aa ?_) | refine hK' _ (ab fun Y hY => aa ?_) | refine ag tk0 dN (ab fun Y hY => aa ?_) | refine aa ?_ | refine aH ?_);(try clear hK' K');(try dsimp only [aop]);try simp only [go_sem,↓reduceIte,Nat.reduceEqDiff,Nat.reduceLT,Nat.reduceLeDiff,Nat.reduceAdd,Nat.reduceSub,Nat.reduceMul,Nat.reduceBEq,Nat.reduceBNe,Nat.reducePow,Int.reduceToNat,Int.reduceLE,Int.reduceLT,Int.reduceMul,Int.reduceEq,Int.reducePow,Int.reduceAdd,Int.reduceSub,Int.reduceNeg,reduceCtorEq,dN,Tryz.results100]) | (with_reducible first | refine aI ?_ | refine aP ?_ | refine aS ?_ | refine bi fun K hK => ?_ | refine aL ?_) | (with_reducible refine hK _ ?_;clear hK K) | (with_reducible refine aK (h1) ?_))
  have hc := wd ks 100 (fun y => !f7 y) (by kernel_rfl) hlk hcl
  have hN : (!ks.any fun y => !f7 y) = ks.all f7 := vI f7 ks
  have hck := ew l
  unfold iw at hck
  rw [f7,lQ,foA,← hN]
  unfold okH gq
  clear hN ih hcl
  generalize hkl : ks.length = n at *
  have hks : n = 0 → ks = [] := fun e => List.eq_nil_of_length_eq_zero (by omega)
  have hA0 : n = 0 → (ks.any fun y => !f7 y) = false := fun e => by rw [hks e];rfl
  clear hks
  generalize (ks.any fun y => !f7 y) = R at *
  generalize cU ks = KS at *
  generalize hlb : dg l = lb at *
  obtain ⟨c,t⟩ := l
  simp only at *
  generalize hnb : (decide (c = 0) && decide ((t.length : Int) = 0)) = nb at *
  refine bm [] Tryz.func58 rfl Tryz.ntmps58 (Nat.le_of_ble_eq_true rfl) (Nat.le_of_ble_eq_true rfl) fun w0 G0 B0 Pr hB0 => ?_
  simp only [bD,bj,List.cons_append,List.nil_append]
  apply kz (α := Bool) (fun b => [(1,.loc 10001 0),(3,.c (.bool b)),(10001,.bc [inA k,inA c,.sl (bn t) t.length .none,.sl KS n .none] 27)]) (fun b => b = nb)
  case use =>
   intro key
   by_cases hc0 : c = 0
   ·have hc0' : (c = 0) = True := eq_true hc0
    by_cases ht0 : (t.length : Int) = 0
    ·have ht0' : ((t.length : Int) = 0) = True := eq_true ht0
     have e : nb = true := by rw [← hnb];simp only [hc0',ht0',decide_true,Bool.and_self]
     repeat' (first | (with_reducible refine hY _ ?_;clear hY Y) | ((with_reducible first | refine aX rfl (aR fun K' hK' => aa ?_) | refine hK' _ (ab fun Y hY => aa ?_) | refine aW rfl (ab fun Y hY => aa ?_) | refine ab fun Y hY => aa ?_ | refine aR fun K' hK' => aa ?_);(try clear hK' K');(try dsimp only [aop]);try simp only [go_sem,↓reduceIte,Nat.reduceEqDiff,Nat.reduceLT,Nat.reduceLeDiff,Nat.reduceAdd,Nat.reduceSub,Nat.reduceMul,Nat.reduceBEq,Nat.reduceBNe,Nat.reducePow,Int.reduceToNat,Int.reduceLE,Int.reduceLT,Int.reduceMul,Int.reduceEq,Int.reducePow,Int.reduceAdd,Int.reduceSub,Int.reduceNeg,reduceCtorEq,bf,Tryz.results58,hc0',ht0']) | (with_reducible first | refine aI ?_ | refine ao ?_ | refine aP ?_ | refine bi fun K hK => ?_) | ((with_reducible refine cS 2 ?_ ?_);(· rfl)) | ((with_reducible refine ca 2 tk0 bf ?_ (ab fun Y hY => aa ?_));(· rfl);(try dsimp only [aop]);try simp only [go_sem,↓reduceIte,Nat.reduceEqDiff,Nat.reduceLT,Nat.reduceLeDiff,Nat.reduceAdd,Nat.reduceSub,Nat.reduceMul,Nat.reduceBEq,Nat.reduceBNe,Nat.reducePow,Int.reduceToNat,Int.reduceLE,Int.reduceLT,Int.reduceMul,Int.reduceEq,Int.reducePow,Int.reduceAdd,Int.reduceSub,Int.reduceNeg,reduceCtorEq,bf,Tryz.results58,hc0',ht0']) | (with_reducible refine hK _ ?_;clear hK K) | ((with_reducible refine aF ?_ ?_);(· decide)))
     exact cf (L := [1,3]) (by simp only [go_sem,↓reduceIte,Nat.reduceEqDiff,Nat.reduceLT,Nat.reduceLeDiff,Nat.reduceAdd,Nat.reduceSub,Nat.reduceMul,Nat.reduceBEq,Nat.reduceBNe,Nat.reducePow,Int.reduceToNat,Int.reduceLE,Int.reduceLT,Int.reduceMul,Int.reduceEq,Int.reducePow,Int.reduceAdd,Int.reduceSub,Int.reduceNeg,reduceCtorEq];try exact rfl) (key true e.symm)
    ·have ht0' : ((t.length : Int) = 0) = False := eq_false ht0
     have e : nb = false := by rw [← hnb];simp only [ht0',decide_false,Bool.and_false]
     repeat' (first | (with_reducible refine hY _ ?_;clear hY Y) | ((with_reducible first | refine aX rfl (aR fun K' hK' => aa ?_) | refine hK' _ (ab fun Y hY => aa ?_) | refine aW rfl (ab fun Y hY => aa ?_) | refine ab fun Y hY => aa ?_ | refine aR fun K' hK' => aa ?_);(try clear hK' K');(try dsimp only [aop]);try simp only [go_sem,↓reduceIte,Nat.reduceEqDiff,Nat.reduceLT,Nat.reduceLeDiff,Nat.reduceAdd,Nat.reduceSub,Nat.reduceMul,Nat.reduceBEq,Nat.reduceBNe,Nat.reducePow,Int.reduceToNat,Int.reduceLE,Int.reduceLT,Int.reduceMul,Int.reduceEq,Int.reducePow,Int.reduceAdd,Int.reduceSub,Int.reduceNeg,reduceCtorEq,bf,Tryz.results58,hc0',ht0']) | (with_reducible first | refine aI ?_ | refine ao ?_ | refine aP ?_ | refine bi fun K hK => ?_) | ((with_reducible refine cS 2 ?_ ?_);(· rfl)) | ((with_reducible refine ca 2 tk0 bf ?_ (ab fun Y hY => aa ?_));(· rfl);(try dsimp only [aop]);try simp only [go_sem,↓reduceIte,Nat.reduceEqDiff,Nat.reduceLT,Nat.reduceLeDiff,Nat.reduceAdd,Nat.reduceSub,Nat.reduceMul,Nat.reduceBEq,Nat.reduceBNe,Nat.reducePow,Int.reduceToNat,Int.reduceLE,Int.reduceLT,Int.reduceMul,Int.reduceEq,Int.reducePow,Int.reduceAdd,Int.reduceSub,Int.reduceNeg,reduceCtorEq,bf,Tryz.results58,hc0',ht0']) | (with_reducible refine hK _ ?_;clear hK K) | ((with_reducible refine aF ?_ ?_);(· decide)))
     exact cf (L := [1,3]) (by simp only [go_sem,↓reduceIte,Nat.reduceEqDiff,Nat.reduceLT,Nat.reduceLeDiff,Nat.reduceAdd,Nat.reduceSub,Nat.reduceMul,Nat.reduceBEq,Nat.reduceBNe,Nat.reducePow,Int.reduceToNat,Int.reduceLE,Int.reduceLT,Int.reduceMul,Int.reduceEq,Int.reducePow,Int.reduceAdd,Int.reduceSub,Int.reduceNeg,reduceCtorEq];try exact rfl) (key false e.symm)
   ·have hc0' : (c = 0) = False := eq_false hc0
    have e : nb = false := by rw [← hnb];simp only [hc0',decide_false,Bool.false_and]
    repeat' (first | (with_reducible refine hY _ ?_;clear hY Y) | ((with_reducible first | refine aX rfl (aR fun K' hK' => aa ?_) | refine hK' _ (ab fun Y hY => aa ?_) | refine aW rfl (ab fun Y hY => aa ?_) | refine ab fun Y hY => aa ?_ | refine aa ?_);(try clear hK' K');(try dsimp only [aop]);try simp only [go_sem,↓reduceIte,Nat.reduceEqDiff,Nat.reduceLT,Nat.reduceLeDiff,Nat.reduceAdd,Nat.reduceSub,Nat.reduceMul,Nat.reduceBEq,Nat.reduceBNe,Nat.reducePow,Int.reduceToNat,Int.reduceLE,Int.reduceLT,Int.reduceMul,Int.reduceEq,Int.reducePow,Int.reduceAdd,Int.reduceSub,Int.reduceNeg,reduceCtorEq,bf,Tryz.results58,hc0']) | (with_reducible first | refine aI ?_ | refine am rfl ?_ | refine bg ?_ ?_ | refine aP ?_ | refine bi fun K hK => ?_) | ((with_reducible refine cS 2 ?_ ?_);(· rfl)) | ((with_reducible refine ca 2 tk0 bf ?_ (ab fun Y hY => aa ?_));(· rfl);(try dsimp only [aop]);try simp only [go_sem,↓reduceIte,Nat.reduceEqDiff,Nat.reduceLT,Nat.reduceLeDiff,Nat.reduceAdd,Nat.reduceSub,Nat.reduceMul,Nat.reduceBEq,Nat.reduceBNe,Nat.reducePow,Int.reduceToNat,Int.reduceLE,Int.reduceLT,Int.reduceMul,Int.reduceEq,Int.reducePow,Int.reduceAdd,Int.reduceSub,Int.reduceNeg,reduceCtorEq,bf,Tryz.results58,hc0']) | (with_reducible refine hK _ ?_;clear hK K) | ((with_reducible refine aF ?_ ?_);(· decide)))
    exact cf (L := [1,3]) (by simp only [go_sem,↓reduceIte,Nat.reduceEqDiff,Nat.reduceLT,Nat.reduceLeDiff,Nat.reduceAdd,Nat.reduceSub,Nat.reduceMul,Nat.reduceBEq,Nat.reduceBNe,Nat.reducePow,Int.reduceToNat,Int.reduceLE,Int.reduceLT,Int.reduceMul,Int.reduceEq,Int.reducePow,Int.reduceAdd,Int.reduceSub,Int.reduceNeg,reduceCtorEq];try exact rfl) (key false e.symm)
  case key =>
  rintro b hb
  subst b
  clear hnb hkl hlt hlk hoks
  by_cases k0 : k = 0 ∨ k = 1
  ·rw [if_pos k0]
   by_cases hn : n = 0
   ·have hn' : ((n : Int) = 0) = True := eq_true (by omega)
    rw [hA0 hn]
    simp only [hn',decide_true,Bool.and_true,Bool.not_false]
    clear hA0
    rcases k0 with rfl | rfl <;> cases nb
    all_goals
     repeat' (first | (with_reducible refine hY _ ?_;clear hY Y) | ((with_reducible first | refine aX rfl (aR fun K' hK' => aa ?_) | refine hK' _ (ab fun Y hY => aa ?_) | refine aW rfl (ab fun Y hY => aa ?_) | refine ab fun Y hY => aa ?_ | refine aR fun K' hK' => aa ?_ | refine ag tk0 bf (ab fun Y hY => aa ?_) | refine aa ?_ | refine aH ?_);(try clear hK' K');(try dsimp only [aop]);try simp only [go_sem,↓reduceIte,Nat.reduceEqDiff,Nat.reduceLT,Nat.reduceLeDiff,Nat.reduceAdd,Nat.reduceSub,Nat.reduceMul,Nat.reduceBEq,Nat.reduceBNe,Nat.reducePow,Int.reduceToNat,Int.reduceLE,Int.reduceLT,Int.reduceMul,Int.reduceEq,Int.reducePow,Int.reduceAdd,Int.reduceSub,Int.reduceNeg,reduceCtorEq,bf,Tryz.results58,hn']) | (with_reducible first | refine aI ?_ | refine am rfl ?_ | refine ao ?_ | refine bg ?_ ?_ | refine aP ?_ | refine aS ?_ | refine bi fun K hK => ?_ | refine aD ?_ | refine aC ?_ | refine aQ ?_ | refine aA ?_ | refine ah ?_ | refine av ?_ | refine aL ?_) | (with_reducible refine hK _ ?_;clear hK K) | ((with_reducible first | refine aF ?_ ?_ | refine ai ?_ ?_);(· decide)))
   ·have hn' : ((n : Int) = 0) = False := eq_false (by omega)
    simp only [hn',decide_false,Bool.and_false,Bool.false_and]
    clear hA0
    rcases k0 with rfl | rfl <;> cases nb
    all_goals
     repeat' (first | (with_reducible refine hY _ ?_;clear hY Y) | ((with_reducible first | refine aX rfl (aR fun K' hK' => aa ?_) | refine hK' _ (ab fun Y hY => aa ?_) | refine aW rfl (ab fun Y hY => aa ?_) | refine ab fun Y hY => aa ?_ | refine aR fun K' hK' => aa ?_ | refine ag tk0 bf (ab fun Y hY => aa ?_) | refine aa ?_ | refine aH ?_);(try clear hK' K');(try dsimp only [aop]);try simp only [go_sem,↓reduceIte,Nat.reduceEqDiff,Nat.reduceLT,Nat.reduceLeDiff,Nat.reduceAdd,Nat.reduceSub,Nat.reduceMul,Nat.reduceBEq,Nat.reduceBNe,Nat.reducePow,Int.reduceToNat,Int.reduceLE,Int.reduceLT,Int.reduceMul,Int.reduceEq,Int.reducePow,Int.reduceAdd,Int.reduceSub,Int.reduceNeg,reduceCtorEq,bf,Tryz.results58,hn']) | (with_reducible first | refine aI ?_ | refine am rfl ?_ | refine ao ?_ | refine bg ?_ ?_ | refine aP ?_ | refine aS ?_ | refine bi fun K hK => ?_ | refine aD ?_ | refine aC ?_ | refine aQ ?_ | refine aA ?_ | refine ah ?_ | refine av ?_ | refine aL ?_) | (with_reducible refine hK _ ?_;clear hK K) | ((with_reducible first | refine aF ?_ ?_ | refine ai ?_ ?_);(· decide)))
  rw [if_neg k0]
  have a0 : (k = 0) = False := eq_false fun e => k0 (.inl e)
  have a1 : (k = 1) = False := eq_false fun e => k0 (.inr e)
  by_cases k2 : k = 2 ∨ k = 3
  ·rw [if_pos k2]
   by_cases hn : n = 0
   ·have hn' : ((n : Int) = 0) = True := eq_true (by omega)
    rw [hA0 hn]
    simp only [hn',decide_true,Bool.and_true,Bool.not_false]
    clear hA0 a0 a1 k0
    cases lb with
    | true =>
     rw [if_pos rfl,dh] at hck
     rcases k2 with rfl | rfl
     all_goals
      repeat' (first | (with_reducible refine hY _ ?_;clear hY Y) | ((with_reducible first | refine aX rfl (aR fun K' hK' => aa ?_) | refine hK' _ (ab fun Y hY => aa ?_) | refine aW rfl (ab fun Y hY => aa ?_) | refine ab fun Y hY => aa ?_ | refine aR fun K' hK' => aa ?_ | refine ag tk0 bf (ab fun Y hY => aa ?_) | refine aa ?_ | refine aH ?_);(try clear hK' K');(try dsimp only [aop]);try simp only [go_sem,↓reduceIte,Nat.reduceEqDiff,Nat.reduceLT,Nat.reduceLeDiff,Nat.reduceAdd,Nat.reduceSub,Nat.reduceMul,Nat.reduceBEq,Nat.reduceBNe,Nat.reducePow,Int.reduceToNat,Int.reduceLE,Int.reduceLT,Int.reduceMul,Int.reduceEq,Int.reducePow,Int.reduceAdd,Int.reduceSub,Int.reduceNeg,reduceCtorEq,bf,Tryz.results58,hn']) | (with_reducible first | refine aI ?_ | refine ao ?_ | refine aP ?_ | refine aS ?_ | refine bi fun K hK => ?_ | refine aD ?_ | refine aC ?_ | refine aQ ?_ | refine aA ?_ | refine ah ?_ | refine av ?_ | refine aL ?_) | (with_reducible refine hK _ ?_;clear hK K) | ((with_reducible first | refine aF ?_ ?_ | refine ai ?_ ?_);(· decide)) | (with_reducible refine aK (hck) ?_) | (with_reducible refine ce (d6) ?_))
    | false =>
     rw [if_neg (by decide),dF] at hck
     rcases k2 with rfl | rfl
     all_goals
      repeat' (first | (with_reducible refine hY _ ?_;clear hY Y) | ((with_reducible first | refine aX rfl (aR fun K' hK' => aa ?_) | refine hK' _ (ab fun Y hY => aa ?_) | refine aW rfl (ab fun Y hY => aa ?_) | refine ab fun Y hY => aa ?_ | refine ag tk0 bf (ab fun Y hY => aa ?_) | refine aa ?_ | refine aH ?_);(try clear hK' K');(try dsimp only [aop]);try simp only [go_sem,↓reduceIte,Nat.reduceEqDiff,Nat.reduceLT,Nat.reduceLeDiff,Nat.reduceAdd,Nat.reduceSub,Nat.reduceMul,Nat.reduceBEq,Nat.reduceBNe,Nat.reducePow,Int.reduceToNat,Int.reduceLE,Int.reduceLT,Int.reduceMul,Int.reduceEq,Int.reducePow,Int.reduceAdd,Int.reduceSub,Int.reduceNeg,reduceCtorEq,bf,Tryz.results58,hn']) | (with_reducible first | refine aI ?_ | refine am rfl ?_ | refine bg ?_ ?_ | refine aP ?_ | refine aS ?_ | refine bi fun K hK => ?_ | refine aD ?_ | refine aC ?_ | refine aQ ?_ | refine aA ?_ | refine ah ?_ | refine av ?_ | refine aL ?_) | (with_reducible refine hK _ ?_;clear hK K) | ((with_reducible first | refine aF ?_ ?_ | refine ai ?_ ?_);(· decide)) | (with_reducible refine aK (hck) ?_))
   ·have hn' : ((n : Int) = 0) = False := eq_false (by omega)
    simp only [hn',decide_false,Bool.and_false,Bool.false_and]
    clear hA0 a0 a1 k0
    cases lb with
    | true =>
     rw [if_pos rfl,dh] at hck
     rcases k2 with rfl | rfl
     all_goals
      repeat' (first | (with_reducible refine hY _ ?_;clear hY Y) | ((with_reducible first | refine aX rfl (aR fun K' hK' => aa ?_) | refine hK' _ (ab fun Y hY => aa ?_) | refine aW rfl (ab fun Y hY => aa ?_) | refine ab fun Y hY => aa ?_ | refine aR fun K' hK' => aa ?_ | refine ag tk0 bf (ab fun Y hY => aa ?_) | refine aa ?_ | refine aH ?_);(try clear hK' K');(try dsimp only [aop]);try simp only [go_sem,↓reduceIte,Nat.reduceEqDiff,Nat.reduceLT,Nat.reduceLeDiff,Nat.reduceAdd,Nat.reduceSub,Nat.reduceMul,Nat.reduceBEq,Nat.reduceBNe,Nat.reducePow,Int.reduceToNat,Int.reduceLE,Int.reduceLT,Int.reduceMul,Int.reduceEq,Int.reducePow,Int.reduceAdd,Int.reduceSub,Int.reduceNeg,reduceCtorEq,bf,Tryz.results58,hn']) | (with_reducible first | refine aI ?_ | refine ao ?_ | refine aP ?_ | refine aS ?_ | refine bi fun K hK => ?_ | refine aD ?_ | refine aC ?_ | refine aQ ?_ | refine aA ?_ | refine ah ?_ | refine av ?_ | refine aL ?_) | (with_reducible refine hK _ ?_;clear hK K) | ((with_reducible first | refine aF ?_ ?_ | refine ai ?_ ?_);(· decide)) | (with_reducible refine aK (hck) ?_) | (with_reducible refine ce (d6) ?_))
    | false =>
     rw [if_neg (by decide),dF] at hck
     rcases k2 with rfl | rfl
     all_goals
      repeat' (first | (with_reducible refine hY _ ?_;clear hY Y) | ((with_reducible first | refine aX rfl (aR fun K' hK' => aa ?_) | refine hK' _ (ab fun Y hY => aa ?_) | refine aW rfl (ab fun Y hY => aa ?_) | refine ab fun Y hY => aa ?_ | refine ag tk0 bf (ab fun Y hY => aa ?_) | refine aa ?_ | refine aH ?_);(try clear hK' K');(try dsimp only [aop]);try simp only [go_sem,↓reduceIte,Nat.reduceEqDiff,Nat.reduceLT,Nat.reduceLeDiff,Nat.reduceAdd,Nat.reduceSub,Nat.reduceMul,Nat.reduceBEq,Nat.reduceBNe,Nat.reducePow,Int.reduceToNat,Int.reduceLE,Int.reduceLT,Int.reduceMul,Int.reduceEq,Int.reducePow,Int.reduceAdd,Int.reduceSub,Int.reduceNeg,reduceCtorEq,bf,Tryz.results58,hn']) | (with_reducible first | refine aI ?_ | refine am rfl ?_ | refine bg ?_ ?_ | refine aP ?_ | refine aS ?_ | refine bi fun K hK => ?_ | refine aD ?_ | refine aC ?_ | refine aQ ?_ | refine aA ?_ | refine ah ?_ | refine av ?_ | refine aL ?_) | (with_reducible refine hK _ ?_;clear hK K) | ((with_reducible first | refine aF ?_ ?_ | refine ai ?_ ?_);(· decide)) | (with_reducible refine aK (hck) ?_))
  rw [if_neg k2]
  have a2 : (k = 2) = False := eq_false fun e => k2 (.inl e)
  have a3 : (k = 3) = False := eq_false fun e => k2 (.inr e)
  by_cases k4 : k = 4
  ·rw [if_pos k4]
   subst k4
   clear a0 a1 a2 a3 k0 k2 hA0 hck
   by_cases hn : n = 1
   ·have hn' : ((n : Int) = 1) = True := eq_true (by omega)
    simp only [hn',decide_true,Bool.and_true]
    cases nb
    all_goals
     repeat' (first | (with_reducible refine hY _ ?_;clear hY Y) | ((with_reducible first | refine aX rfl (aR fun K' hK' => aa ?_) | refine hK' _ (ab fun Y hY => aa ?_) | refine aW rfl (ab fun Y hY => aa ?_) | refine ab fun Y hY => aa ?_ | refine aR fun K' hK' => aa ?_ | refine ag tk0 bf (ab fun Y hY => aa ?_) | refine aa ?_ | refine aH ?_);(try clear hK' K');(try dsimp only [aop]);try simp only [go_sem,↓reduceIte,Nat.reduceEqDiff,Nat.reduceLT,Nat.reduceLeDiff,Nat.reduceAdd,Nat.reduceSub,Nat.reduceMul,Nat.reduceBEq,Nat.reduceBNe,Nat.reducePow,Int.reduceToNat,Int.reduceLE,Int.reduceLT,Int.reduceMul,Int.reduceEq,Int.reducePow,Int.reduceAdd,Int.reduceSub,Int.reduceNeg,reduceCtorEq,bf,Tryz.results58,hn']) | (with_reducible first | refine aI ?_ | refine am rfl ?_ | refine ao ?_ | refine bg ?_ ?_ | refine aP ?_ | refine aS ?_ | refine bi fun K hK => ?_ | refine aD ?_ | refine aC ?_ | refine ay ?_ | refine ah ?_ | refine av ?_ | refine aL ?_) | (with_reducible refine hK _ ?_;clear hK K) | ((with_reducible first | refine aF ?_ ?_ | refine ai ?_ ?_);(· decide)) | (with_reducible refine aK (hc) ?_))
   ·have hn' : ((n : Int) = 1) = False := eq_false (by omega)
    simp only [hn',decide_false,Bool.and_false,Bool.false_and]
    repeat' (first | (with_reducible refine hY _ ?_;clear hY Y) | ((with_reducible first | refine aX rfl (aR fun K' hK' => aa ?_) | refine hK' _ (ab fun Y hY => aa ?_) | refine ab fun Y hY => aa ?_ | refine ag tk0 bf (ab fun Y hY => aa ?_) | refine aa ?_ | refine aH ?_);(try clear hK' K');(try dsimp only [aop]);try simp only [go_sem,↓reduceIte,Nat.reduceEqDiff,Nat.reduceLT,Nat.reduceLeDiff,Nat.reduceAdd,Nat.reduceSub,Nat.reduceMul,Nat.reduceBEq,Nat.reduceBNe,Nat.reducePow,Int.reduceToNat,Int.reduceLE,Int.reduceLT,Int.reduceMul,Int.reduceEq,Int.reducePow,Int.reduceAdd,Int.reduceSub,Int.reduceNeg,reduceCtorEq,bf,Tryz.results58,hn']) | (with_reducible first | refine aI ?_ | refine aP ?_ | refine aS ?_ | refine bi fun K hK => ?_ | refine aD ?_ | refine aC ?_ | refine aQ ?_ | refine aA ?_ | refine ah ?_ | refine aL ?_) | (with_reducible refine hK _ ?_;clear hK K) | ((with_reducible refine ai ?_ ?_);(· decide)))
  rw [if_neg k4]
  have a4 : (k = 4) = False := eq_false k4
  by_cases k5 : k = 5 ∨ k = 6
  ·rw [if_pos k5]
   clear a0 a1 a2 a3 k0 k2 hA0 hck a4 k4
   rcases k5 with rfl | rfl <;> cases nb
   all_goals
    repeat' (first | (with_reducible refine hY _ ?_;clear hY Y) | ((with_reducible first | refine aX rfl (aR fun K' hK' => aa ?_) | refine hK' _ (ab fun Y hY => aa ?_) | refine aW rfl (ab fun Y hY => aa ?_) | refine ab fun Y hY => aa ?_ | refine aR fun K' hK' => aa ?_ | refine ag tk0 bf (ab fun Y hY => aa ?_) | refine aa ?_ | refine aH ?_);(try clear hK' K');(try dsimp only [aop]);try simp only [go_sem,↓reduceIte,Nat.reduceEqDiff,Nat.reduceLT,Nat.reduceLeDiff,Nat.reduceAdd,Nat.reduceSub,Nat.reduceMul,Nat.reduceBEq,Nat.reduceBNe,Nat.reducePow,Int.reduceToNat,Int.reduceLE,Int.reduceLT,Int.reduceMul,Int.reduceEq,Int.reducePow,Int.reduceAdd,Int.reduceSub,Int.reduceNeg,reduceCtorEq,bf,Tryz.results58]) | (with_reducible first | refine aI ?_ | refine am rfl ?_ | refine ao ?_ | refine bg ?_ ?_ | refine aP ?_ | refine aS ?_ | refine bi fun K hK => ?_ | refine aD ?_ | refine aC ?_ | refine ay ?_ | refine ah ?_ | refine av ?_ | refine aL ?_) | (with_reducible refine hK _ ?_;clear hK K) | ((with_reducible first | refine aF ?_ ?_ | refine ai ?_ ?_);(· decide)) | (with_reducible refine aK (hc) ?_))
  ·rw [if_neg k5]
   have a5 : (k = 5) = False := eq_false fun e => k5 (.inl e)
   have a6 : (k = 6) = False := eq_false fun e => k5 (.inr e)
   clear hA0 hck hc
   repeat' (first | (with_reducible refine hY _ ?_;clear hY Y) | ((with_reducible first | refine aX rfl (aR fun K' hK' => aa ?_) | refine hK' _ (ab fun Y hY => aa ?_) | refine ab fun Y hY => aa ?_ | refine ag tk0 bf (ab fun Y hY => aa ?_) | refine aa ?_ | refine aH ?_);(try clear hK' K');(try dsimp only [aop]);try simp only [go_sem,↓reduceIte,Nat.reduceEqDiff,Nat.reduceLT,Nat.reduceLeDiff,Nat.reduceAdd,Nat.reduceSub,Nat.reduceMul,Nat.reduceBEq,Nat.reduceBNe,Nat.reducePow,Int.reduceToNat,Int.reduceLE,Int.reduceLT,Int.reduceMul,Int.reduceEq,Int.reducePow,Int.reduceAdd,Int.reduceSub,Int.reduceNeg,reduceCtorEq,bf,Tryz.results58,a0,a1,a2,a3,a4,a5,a6]) | (with_reducible first | refine aI ?_ | refine aP ?_ | refine aS ?_ | refine bi fun K hK => ?_ | refine aC ?_ | refine aQ ?_ | refine aA ?_ | refine ah ?_ | refine aL ?_) | (with_reducible refine hK _ ?_;clear hK K) | ((with_reducible refine ai ?_ ?_);(· decide)))
def cg : Nat → List Nat
 | 0 => [0]
 | 1 => [1]
 | 2 => []
 | 3 => [1]
 | 4 => []
 | 5 => [1]
 | 6 => []
 | 7 => []
 | _ => []
set_option maxRecDepth 100000 in
set_option maxHeartbeats 8000000 in
theorem vR (f : Fo) (hok : OkF f) : AFn Tryz.prog 28 [.agg (foA f)] [] (cK (gk f)) [] := by
 have h1 := t6 64 64 rfl (by decide) f hok
 have h3 := ym f hok
 unfold gk
 cases hd : f5 64 f with
 | true =>
  rw [hd] at h1
  rw [if_pos rfl,de (by decide)]
  obtain ⟨k,l,ks⟩ := f
  simp only [foA] at h1 ⊢
  refine bm [] Tryz.func28 rfl Tryz.ntmps28 (Nat.le_of_ble_eq_true rfl) (Nat.le_of_ble_eq_true rfl) fun w0 G0 B0 Pr hB0 => ?_
  simp only [bD,bj,List.cons_append,List.nil_append]
  repeat' (first | (with_reducible refine hY _ ?_;clear hY Y) | ((with_reducible first | refine aX rfl (aR fun K' hK' => aa ?_) | refine hK' _ (ab fun Y hY => aa ?_) | refine ab fun Y hY => aa ?_ | refine ag tk0 cg (ab fun Y hY => aa ?_) | refine aa ?_ | refine aH ?_);(try clear hK' K');(try dsimp only [aop]);try simp only [go_sem,↓reduceIte,Nat.reduceEqDiff,Nat.reduceLT,Nat.reduceLeDiff,Nat.reduceAdd,Nat.reduceSub,Nat.reduceMul,Nat.reduceBEq,Nat.reduceBNe,Nat.reducePow,Int.reduceToNat,Int.reduceLE,Int.reduceLT,Int.reduceMul,Int.reduceEq,Int.reducePow,Int.reduceAdd,Int.reduceSub,Int.reduceNeg,reduceCtorEq,cg,Tryz.results28]) | (with_reducible first | refine aI ?_ | refine aP ?_ | refine aS ?_ | refine bi fun K hK => ?_ | refine aD ?_ | refine aQ ?_ | refine aA ?_ | refine ah ?_ | refine aL ?_) | (with_reducible refine hK _ ?_;clear hK K) | ((with_reducible refine ai ?_ ?_);(· decide)) | (with_reducible refine aK (h1) ?_))
  all_goals rfl
 | false =>
  rw [hd] at h1
  rw [if_neg (by decide)]
  have h2 := u6 64 (by decide) f hok hd
  generalize szF f = S at *
  generalize f7 f = R at *
  clear hok
  obtain ⟨k,l,ks⟩ := f
  simp only [foA] at h1 h2 h3 ⊢
  by_cases hs : 4096 < S
  ·have hs' : ((4096 : Int) < (S : Int)) = True := eq_true (by omega)
   rw [if_pos hs,gG]
   refine bm [] Tryz.func28 rfl Tryz.ntmps28 (Nat.le_of_ble_eq_true rfl) (Nat.le_of_ble_eq_true rfl) fun w0 G0 B0 Pr hB0 => ?_
   simp only [bD,bj,List.cons_append,List.nil_append]
   repeat' (first | (with_reducible refine hY _ ?_;clear hY Y) | ((with_reducible first | refine aX rfl (aR fun K' hK' => aa ?_) | refine hK' _ (ab fun Y hY => aa ?_) | refine ab fun Y hY => aa ?_ | refine ag tk0 cg (ab fun Y hY => aa ?_) | refine aa ?_ | refine aH ?_);(try clear hK' K');(try dsimp only [aop]);try simp only [go_sem,↓reduceIte,Nat.reduceEqDiff,Nat.reduceLT,Nat.reduceLeDiff,Nat.reduceAdd,Nat.reduceSub,Nat.reduceMul,Nat.reduceBEq,Nat.reduceBNe,Nat.reducePow,Int.reduceToNat,Int.reduceLE,Int.reduceLT,Int.reduceMul,Int.reduceEq,Int.reducePow,Int.reduceAdd,Int.reduceSub,Int.reduceNeg,reduceCtorEq,cg,Tryz.results28,hs']) | (with_reducible first | refine aI ?_ | refine aP ?_ | refine aS ?_ | refine bi fun K hK => ?_ | refine aD ?_ | refine aC ?_ | refine aQ ?_ | refine aA ?_ | refine ah ?_ | refine aL ?_) | (with_reducible refine hK _ ?_;clear hK K) | ((with_reducible refine ai ?_ ?_);(· decide)) | (with_reducible refine aK (h1) ?_) | (with_reducible refine aK (h2) ?_))
  ·have hs' : ((4096 : Int) < (S : Int)) = False := eq_false (by omega)
   rw [if_neg hs]
   cases R with
   | true =>
    rw [if_pos rfl,dh]
    refine bm [] Tryz.func28 rfl Tryz.ntmps28 (Nat.le_of_ble_eq_true rfl) (Nat.le_of_ble_eq_true rfl) fun w0 G0 B0 Pr hB0 => ?_
    simp only [bD,bj,List.cons_append,List.nil_append]
    repeat' (first | (with_reducible refine hY _ ?_;clear hY Y) | ((with_reducible first | refine aX rfl (aR fun K' hK' => aa ?_) | refine hK' _ (ab fun Y hY => aa ?_) | refine ab fun Y hY => aa ?_ | refine ag tk0 cg (ab fun Y hY => aa ?_) | refine aa ?_ | refine aH ?_);(try clear hK' K');(try dsimp only [aop]);try simp only [go_sem,↓reduceIte,Nat.reduceEqDiff,Nat.reduceLT,Nat.reduceLeDiff,Nat.reduceAdd,Nat.reduceSub,Nat.reduceMul,Nat.reduceBEq,Nat.reduceBNe,Nat.reducePow,Int.reduceToNat,Int.reduceLE,Int.reduceLT,Int.reduceMul,Int.reduceEq,Int.reducePow,Int.reduceAdd,Int.reduceSub,Int.reduceNeg,reduceCtorEq,cg,Tryz.results28,hs']) | (with_reducible first | refine aI ?_ | refine aP ?_ | refine aS ?_ | refine bi fun K hK => ?_ | refine aC ?_ | refine ay ?_ | refine ah ?_ | refine av ?_ | refine aL ?_) | (with_reducible refine hK _ ?_;clear hK K) | ((with_reducible refine ai ?_ ?_);(· decide)) | (with_reducible refine aK (h1) ?_) | (with_reducible refine aK (h2) ?_) | (with_reducible refine aK (h3) ?_))
   | false =>
    rw [if_neg (by decide),dF]
    refine bm [] Tryz.func28 rfl Tryz.ntmps28 (Nat.le_of_ble_eq_true rfl) (Nat.le_of_ble_eq_true rfl) fun w0 G0 B0 Pr hB0 => ?_
    simp only [bD,bj,List.cons_append,List.nil_append]
    repeat' (first | (with_reducible refine hY _ ?_;clear hY Y) | ((with_reducible first | refine aX rfl (aR fun K' hK' => aa ?_) | refine hK' _ (ab fun Y hY => aa ?_) | refine ab fun Y hY => aa ?_ | refine ag tk0 cg (ab fun Y hY => aa ?_) | refine aa ?_ | refine aH ?_);(try clear hK' K');(try dsimp only [aop]);try simp only [go_sem,↓reduceIte,Nat.reduceEqDiff,Nat.reduceLT,Nat.reduceLeDiff,Nat.reduceAdd,Nat.reduceSub,Nat.reduceMul,Nat.reduceBEq,Nat.reduceBNe,Nat.reducePow,Int.reduceToNat,Int.reduceLE,Int.reduceLT,Int.reduceMul,Int.reduceEq,Int.reducePow,Int.reduceAdd,Int.reduceSub,Int.reduceNeg,reduceCtorEq,cg,Tryz.results28,hs']) | (with_reducible first | refine aI ?_ | refine aP ?_ | refine aS ?_ | refine bi fun K hK => ?_ | refine aD ?_ | refine aC ?_ | refine aQ ?_ | refine aA ?_ | refine ah ?_ | refine aL ?_) | (with_reducible refine hK _ ?_;clear hK K) | ((with_reducible refine ai ?_ ?_);(· decide)) | (with_reducible refine aK (h1) ?_) | (with_reducible refine aK (h2) ?_) | (with_reducible refine aK (h3) ?_))
end Go.Proofs.YtmpdocplcgbpkaaGreatDoor
namespace Go.Proofs.YtmpdocplcgbpkaaGreatDoor
set_option linter.unusedSimpArgs false
set_option linter.unusedVariables false
open Go.RowKit
theorem zo {k : Int} {l : Ln} {n : Nat} (h : okH k l n = true) : (0 ≤ k ∧ k ≤ 6) ∧ (k = 4 → n = 1) := by
 unfold okH at h
 by_cases h0 : k = 0
 ·subst h0;exact ⟨by omega,fun e => by cases e⟩
 by_cases h1 : k = 1
 ·subst h1;exact ⟨by omega,fun e => by cases e⟩
 by_cases h2 : k = 2
 ·subst h2;exact ⟨by omega,fun e => by cases e⟩
 by_cases h3 : k = 3
 ·subst h3;exact ⟨by omega,fun e => by cases e⟩
 by_cases h4 : k = 4
 ·subst h4
  refine ⟨by omega,fun _ => ?_⟩
  simp at h
  omega
 by_cases h5 : k = 5
 ·subst h5;exact ⟨by omega,fun e => by cases e⟩
 by_cases h6 : k = 6
 ·subst h6;exact ⟨by omega,fun e => by cases e⟩
 simp [h0,h1,h2,h3,h4,h5,h6] at h
theorem qa : ∀ l : List Fo,l.length ≤ d3 l
 | [] => Nat.le_refl _
 | .mk _ _ ks :: r => by
  have := qa r
  rw [d3,tot,List.length_cons];omega
mutual
theorem ux : ∀ f : Fo,f7 f = true → tot f ≤ 4096 → kOk f
 | .mk k l ks,h,ht => by
  rw [f7,Bool.and_eq_true] at h
  obtain ⟨h1,h2⟩ := zo h.1
  rw [tot] at ht
  have := qa ks
  rw [kOk]
  refine ⟨⟨h1,by omega⟩,fun e hn => ?_,rT ks h.2 (by omega)⟩
  have := h2 e
  rw [hn] at this;cases this
theorem rT : ∀ l : List Fo,kB l = true → d3 l ≤ 4096 → uy l
 | [],_,_ => trivial
 | f :: r,h,ht => by
  rw [kB,Bool.and_eq_true] at h
  rw [d3] at ht
  rw [uy]
  exact ⟨ux f h.1 (by omega),rT r h.2 (by omega)⟩
end
theorem sJ {f : Fo} (h : gk f = 0) : kOk f := by
 unfold gk at h
 split at h
 ·cases h
 ·split at h
  ·cases h
  ·rename_i hs
   split at h
   ·rename_i hf
    have hs' := (sj f).1 (by omega)
    exact ux f hf (by omega)
   ·cases h
theorem nL (f : Fo) : gk f = 0 ∨ gk f = 2 ∨ gk f = 4 ∨ gk f = 5 := by
 unfold gk
 repeat' split
 all_goals simp
def du (f : Fo) : Nat × Fo := if gk f = 0 then eD f false else (gk f,fT)
def b6 : Nat → List Nat
 | 0 => [0]
 | 1 => [1,2]
 | 2 => [1,2,4]
 | 3 => [2,4]
 | 4 => [1,2]
 | _ => []
set_option maxRecDepth 100000 in
set_option maxHeartbeats 8000000 in
theorem s8 (f : Fo) (hok : OkF f) : AFn Tryz.prog 17 [.agg (foA f)] [] (gu (du f)) [] := by
 have hck := vR f hok
 unfold du
 rcases nL f with e | e | e | e
 ·rw [if_pos e]
  rw [e] at hck
  have hn := yH f hok (sJ e) false
  rw [dh] at hck
  have hne := kg f false
  generalize eD f false = q at *
  obtain ⟨k,⟨c,t⟩,ks⟩ := f
  rw [cZ] at hck hn ⊢
  rcases hne with e | e | e
  ·obtain ⟨x,⟨rk,⟨rc,rt⟩,rks⟩⟩ := q
   simp only at e
   subst e
   rw [gL] at hn ⊢
   refine bm [] Tryz.func17 rfl Tryz.ntmps17 (Nat.le_of_ble_eq_true rfl) (Nat.le_of_ble_eq_true rfl) fun w0 G0 B0 Pr hB0 => ?_
   simp only [bD,bj,List.cons_append,List.nil_append]
   repeat' (first | (with_reducible refine hY _ ?_;clear hY Y) | ((with_reducible first | refine aX rfl (aR fun K' hK' => aa ?_) | refine hK' _ (ab fun Y hY => aa ?_) | refine ab fun Y hY => aa ?_ | refine ag tk0 b6 (ab fun Y hY => aa ?_) | refine aa ?_ | refine aH ?_);(try clear hK' K');(try dsimp only [aop]);try simp only [go_sem,↓reduceIte,Nat.reduceEqDiff,Nat.reduceLT,Nat.reduceLeDiff,Nat.reduceAdd,Nat.reduceSub,Nat.reduceMul,Nat.reduceBEq,Nat.reduceBNe,Nat.reducePow,Int.reduceToNat,Int.reduceLE,Int.reduceLT,Int.reduceMul,Int.reduceEq,Int.reducePow,Int.reduceAdd,Int.reduceSub,Int.reduceNeg,reduceCtorEq,b6,Tryz.results17]) | (with_reducible first | refine aI ?_ | refine aP ?_ | refine aS ?_ | refine bi fun K hK => ?_ | refine aC ?_ | refine av ?_ | refine aL ?_) | (with_reducible refine hK _ ?_;clear hK K) | ((with_reducible refine ai ?_ ?_);(· decide)) | (with_reducible refine aK (hck) ?_) | (with_reducible refine ce (cu) ?_) | (with_reducible refine aK (hn) ?_))
  ·rw [e,iB] at hn ⊢
   refine bm [] Tryz.func17 rfl Tryz.ntmps17 (Nat.le_of_ble_eq_true rfl) (Nat.le_of_ble_eq_true rfl) fun w0 G0 B0 Pr hB0 => ?_
   simp only [bD,bj,List.cons_append,List.nil_append]
   repeat' (first | (with_reducible refine hY _ ?_;clear hY Y) | ((with_reducible first | refine aX rfl (aR fun K' hK' => aa ?_) | refine hK' _ (ab fun Y hY => aa ?_) | refine ab fun Y hY => aa ?_ | refine ag tk0 b6 (ab fun Y hY => aa ?_) | refine aa ?_ | refine aH ?_);(try clear hK' K');(try dsimp only [aop]);try simp only [go_sem,↓reduceIte,Nat.reduceEqDiff,Nat.reduceLT,Nat.reduceLeDiff,Nat.reduceAdd,Nat.reduceSub,Nat.reduceMul,Nat.reduceBEq,Nat.reduceBNe,Nat.reducePow,Int.reduceToNat,Int.reduceLE,Int.reduceLT,Int.reduceMul,Int.reduceEq,Int.reducePow,Int.reduceAdd,Int.reduceSub,Int.reduceNeg,reduceCtorEq,b6,Tryz.results17]) | (with_reducible first | refine aI ?_ | refine aP ?_ | refine aS ?_ | refine bi fun K hK => ?_ | refine aC ?_ | refine av ?_ | refine aL ?_) | (with_reducible refine hK _ ?_;clear hK K) | ((with_reducible refine ai ?_ ?_);(· decide)) | (with_reducible refine aK (hck) ?_) | (with_reducible refine ce (cu) ?_) | (with_reducible refine aK (hn) ?_))
  ·rw [e,jb] at hn ⊢
   refine bm [] Tryz.func17 rfl Tryz.ntmps17 (Nat.le_of_ble_eq_true rfl) (Nat.le_of_ble_eq_true rfl) fun w0 G0 B0 Pr hB0 => ?_
   simp only [bD,bj,List.cons_append,List.nil_append]
   repeat' (first | (with_reducible refine hY _ ?_;clear hY Y) | ((with_reducible first | refine aX rfl (aR fun K' hK' => aa ?_) | refine hK' _ (ab fun Y hY => aa ?_) | refine ab fun Y hY => aa ?_ | refine ag tk0 b6 (ab fun Y hY => aa ?_) | refine aa ?_ | refine aH ?_);(try clear hK' K');(try dsimp only [aop]);try simp only [go_sem,↓reduceIte,Nat.reduceEqDiff,Nat.reduceLT,Nat.reduceLeDiff,Nat.reduceAdd,Nat.reduceSub,Nat.reduceMul,Nat.reduceBEq,Nat.reduceBNe,Nat.reducePow,Int.reduceToNat,Int.reduceLE,Int.reduceLT,Int.reduceMul,Int.reduceEq,Int.reducePow,Int.reduceAdd,Int.reduceSub,Int.reduceNeg,reduceCtorEq,b6,Tryz.results17]) | (with_reducible first | refine aI ?_ | refine aP ?_ | refine aS ?_ | refine bi fun K hK => ?_ | refine aC ?_ | refine av ?_ | refine aL ?_) | (with_reducible refine hK _ ?_;clear hK K) | ((with_reducible refine ai ?_ ?_);(· decide)) | (with_reducible refine aK (hck) ?_) | (with_reducible refine ce (cu) ?_) | (with_reducible refine aK (hn) ?_))
 ·rw [if_neg (by rw [e];decide),e]
  rw [e,gG] at hck
  refine dQ (r := zF (.ifc 50 (.c (.int .i64 2)))) ?_ 4 (by simp [wkD,gu,fT,foA,cU,bn,gG])
  clear e
  obtain ⟨k,⟨c,t⟩,ks⟩ := f
  rw [cZ] at hck ⊢
  refine bm [] Tryz.func17 rfl Tryz.ntmps17 (Nat.le_of_ble_eq_true rfl) (Nat.le_of_ble_eq_true rfl) fun w0 G0 B0 Pr hB0 => ?_
  simp only [bD,bj,List.cons_append,List.nil_append]
  repeat' (first | (with_reducible refine hY _ ?_;clear hY Y) | ((with_reducible first | refine aX rfl (aR fun K' hK' => aa ?_) | refine hK' _ (ab fun Y hY => aa ?_) | refine ab fun Y hY => aa ?_ | refine ag tk0 b6 (ab fun Y hY => aa ?_) | refine aa ?_ | refine aH ?_);(try clear hK' K');(try dsimp only [aop]);try simp only [go_sem,↓reduceIte,Nat.reduceEqDiff,Nat.reduceLT,Nat.reduceLeDiff,Nat.reduceAdd,Nat.reduceSub,Nat.reduceMul,Nat.reduceBEq,Nat.reduceBNe,Nat.reducePow,Int.reduceToNat,Int.reduceLE,Int.reduceLT,Int.reduceMul,Int.reduceEq,Int.reducePow,Int.reduceAdd,Int.reduceSub,Int.reduceNeg,reduceCtorEq,b6,Tryz.results17]) | (with_reducible first | refine aI ?_ | refine aP ?_ | refine aS ?_ | refine bi fun K hK => ?_ | refine aD ?_ | refine aQ ?_ | refine aL ?_) | (with_reducible refine hK _ ?_;clear hK K) | ((with_reducible refine ai ?_ ?_);(· decide)) | (with_reducible refine aK (hck) ?_))
 ·rw [if_neg (by rw [e];decide),e]
  rw [e,show cK 4 = .ifc 50 (.c (.int .i64 4)) from rfl] at hck
  refine dQ (r := zF (.ifc 50 (.c (.int .i64 4)))) ?_ 4 (by simp [wkD,gu,fT,foA,cU,bn];rfl)
  clear e
  obtain ⟨k,⟨c,t⟩,ks⟩ := f
  rw [cZ] at hck ⊢
  refine bm [] Tryz.func17 rfl Tryz.ntmps17 (Nat.le_of_ble_eq_true rfl) (Nat.le_of_ble_eq_true rfl) fun w0 G0 B0 Pr hB0 => ?_
  simp only [bD,bj,List.cons_append,List.nil_append]
  repeat' (first | (with_reducible refine hY _ ?_;clear hY Y) | ((with_reducible first | refine aX rfl (aR fun K' hK' => aa ?_) | refine hK' _ (ab fun Y hY => aa ?_) | refine ab fun Y hY => aa ?_ | refine ag tk0 b6 (ab fun Y hY => aa ?_) | refine aa ?_ | refine aH ?_);(try clear hK' K');(try dsimp only [aop]);try simp only [go_sem,↓reduceIte,Nat.reduceEqDiff,Nat.reduceLT,Nat.reduceLeDiff,Nat.reduceAdd,Nat.reduceSub,Nat.reduceMul,Nat.reduceBEq,Nat.reduceBNe,Nat.reducePow,Int.reduceToNat,Int.reduceLE,Int.reduceLT,Int.reduceMul,Int.reduceEq,Int.reducePow,Int.reduceAdd,Int.reduceSub,Int.reduceNeg,reduceCtorEq,b6,Tryz.results17]) | (with_reducible first | refine aI ?_ | refine aP ?_ | refine aS ?_ | refine bi fun K hK => ?_ | refine aD ?_ | refine aQ ?_ | refine aL ?_) | (with_reducible refine hK _ ?_;clear hK K) | ((with_reducible refine ai ?_ ?_);(· decide)) | (with_reducible refine aK (hck) ?_))
 ·rw [if_neg (by rw [e];decide),e]
  rw [e,dF] at hck
  refine dQ (r := zF (.ifc 50 (.c (.int .i64 5)))) ?_ 4 (by simp [wkD,gu,fT,foA,cU,bn,dF])
  clear e
  obtain ⟨k,⟨c,t⟩,ks⟩ := f
  rw [cZ] at hck ⊢
  refine bm [] Tryz.func17 rfl Tryz.ntmps17 (Nat.le_of_ble_eq_true rfl) (Nat.le_of_ble_eq_true rfl) fun w0 G0 B0 Pr hB0 => ?_
  simp only [bD,bj,List.cons_append,List.nil_append]
  repeat' (first | (with_reducible refine hY _ ?_;clear hY Y) | ((with_reducible first | refine aX rfl (aR fun K' hK' => aa ?_) | refine hK' _ (ab fun Y hY => aa ?_) | refine ab fun Y hY => aa ?_ | refine ag tk0 b6 (ab fun Y hY => aa ?_) | refine aa ?_ | refine aH ?_);(try clear hK' K');(try dsimp only [aop]);try simp only [go_sem,↓reduceIte,Nat.reduceEqDiff,Nat.reduceLT,Nat.reduceLeDiff,Nat.reduceAdd,Nat.reduceSub,Nat.reduceMul,Nat.reduceBEq,Nat.reduceBNe,Nat.reducePow,Int.reduceToNat,Int.reduceLE,Int.reduceLT,Int.reduceMul,Int.reduceEq,Int.reducePow,Int.reduceAdd,Int.reduceSub,Int.reduceNeg,reduceCtorEq,b6,Tryz.results17]) | (with_reducible first | refine aI ?_ | refine aP ?_ | refine aS ?_ | refine bi fun K hK => ?_ | refine aD ?_ | refine aQ ?_ | refine aL ?_) | (with_reducible refine hK _ ?_;clear hK K) | ((with_reducible refine ai ?_ ?_);(· decide)) | (with_reducible refine aK (hck) ?_))
end Go.Proofs.YtmpdocplcgbpkaaGreatDoor
