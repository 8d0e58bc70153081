/- slices.SortStableFunc, lin.sum in K, of terms that stand in order already. lin.sum, lin.Add in K: of a sound form and a constant. lin.Add in K: of a sound form and a constant. -/
import Derived.Test.YtmpdocplcgbpkaaGreatDoorZ17
import Derived.Test.YtmpdocplcgbpkaaGreatDoorZ10
import Derived.Test.YtmpdocplcgbpkaaGreatDoorZ16
import Derived.Test.YtmpdocplcgbpkaaGreatDoorZ7
import Derived.Test.YtmpdocplcgbpkaaGreatDoorZ15
namespace Go.Proofs.YtmpdocplcgbpkaaGreatDoor
set_option linter.unusedSimpArgs false
set_option linter.unusedVariables false
open Go.RowKit
def be : Nat → List Nat
 | 0 => [0,1,2]
 | 1 => [0,1,2,6]
 | 2 => [0,1,2,6,7,8]
 | 3 => [0,1,2,6,7,8]
 | 4 => [0,1,2,6,8]
 | 5 => [0,1,2,6,7,8]
 | 6 => [0,1,2,6,7]
 | 7 => [0,1,2,6]
 | 8 => [0,1,2,6]
 | 9 => [0,1,2,6,7,8]
 | 10 => [0,1,2,6,7,8]
 | 11 => [0,1,2,6,8]
 | 12 => [0,1,2,6,7,8]
 | 13 => [0,1,2,6,7]
 | 14 => [0,1,2,6,7,9]
 | 15 => [0,1,2,6,7,9]
 | 16 => [0,1,2,6]
 | _ => []
set_option maxRecDepth 100000 in
set_option maxHeartbeats 16000000 in
theorem vg (t : List Tm) (ht : nE t) (hl : t.length ≤ 1000000) : AFn Tryz.prog 127 [.sl (bn t) t.length .none,inA (t.length : Int),iQ] [] (.tup []) [] := by
 have hins := fun a b hab hb => zi t a b hab hb ht hl
 have hsym := fun a m b h1 h2 h3 => zB t ht hl (b - a) a m b rfl h1 h2 h3
 clear ht
 generalize hn : t.length = n at *
 refine bm [] Tryz.func127 rfl Tryz.ntmps127 (Nat.le_of_ble_eq_true rfl) (Nat.le_of_ble_eq_true rfl) fun w0 G0 B0 Pr hB0 => ?_
 simp only [bD,bj,List.cons_append,List.nil_append]
 repeat' (first | (with_reducible refine hY _ ?_;clear hY Y) | ((with_reducible first | refine aX rfl (aR fun K' hK' => aa ?_) | refine hK' _ (ab fun Y hY => aa ?_) | refine ag tk0 be (ab fun Y hY => aa ?_));(try clear hK' K');(try dsimp only [aop]);try simp only [go_sem,↓reduceIte,Nat.reduceEqDiff,Nat.reduceLT,Nat.reduceLeDiff,Nat.reduceAdd,Nat.reduceSub,Nat.reduceMul,Nat.reduceBEq,Nat.reduceBNe,Nat.reducePow,Int.reduceToNat,Int.reduceLE,Int.reduceLT,Int.reduceMul,Int.reduceEq,Int.reducePow,Int.reduceAdd,Int.reduceSub,Int.reduceNeg,reduceCtorEq,be,Tryz.results127]) | (with_reducible first | refine aI ?_ | refine aP ?_ | refine aS ?_ | refine bi fun K hK => ?_ | refine ah ?_ | refine au ?_) | (with_reducible refine hK _ ?_;clear hK K))
 refine b7 (α := Nat) (fun a => [(0,.sl (bn t) n .none),(1,inA (n : Int)),(2,iQ),(6,inA 20),(7,inA (a : Int)),(8,inA ((a + 20 : Nat) : Int))]) (fun a => a ≤ n) (fun a => n - a) 0 [0,1,2,6,7,8] ?_ (Nat.zero_le _) ?_
 ·simp only [go_sem,↓reduceIte,Nat.reduceEqDiff,Nat.reduceLT,Nat.reduceLeDiff,Nat.reduceAdd,Nat.reduceSub,Nat.reduceMul,Nat.reduceBEq,Nat.reduceBNe,Nat.reducePow,Int.reduceToNat,Int.reduceLE,Int.reduceLT,Int.reduceMul,Int.reduceEq,Int.reducePow,Int.reduceAdd,Int.reduceSub,Int.reduceNeg,reduceCtorEq] <;> rfl
 intro a ha ih
 by_cases hle : a + 20 ≤ n
 ·have hle' : (((a + 20 : Nat) : Int) ≤ (n : Int)) = True := eq_true (by omega)
  have hwk : IntKind.i64.wrap (((a + 20 : Nat) : Int) + 20) = ((a + 20 + 20 : Nat) : Int) := by rw [bQ (by omega) (by omega)];omega
  have hc := hins a (a + 20) (by omega) hle
  have ih' := ih (a + 20) hle (by omega)
  clear ih hins hsym
  generalize a + 20 = b at *
  repeat' (first | (with_reducible refine hY _ ?_;clear hY Y) | ((with_reducible first | refine aX rfl (aR fun K' hK' => aa ?_) | refine hK' _ (ab fun Y hY => aa ?_) | refine ab fun Y hY => aa ?_ | refine ag tk0 be (ab fun Y hY => aa ?_) | refine aa ?_);(try clear hK' K');(try dsimp only [aop]);try simp only [go_sem,↓reduceIte,Nat.reduceEqDiff,Nat.reduceLT,Nat.reduceLeDiff,Nat.reduceAdd,Nat.reduceSub,Nat.reduceMul,Nat.reduceBEq,Nat.reduceBNe,Nat.reducePow,Int.reduceToNat,Int.reduceLE,Int.reduceLT,Int.reduceMul,Int.reduceEq,Int.reducePow,Int.reduceAdd,Int.reduceSub,Int.reduceNeg,reduceCtorEq,be,Tryz.results127,hle',hwk]) | (with_reducible first | refine aI ?_ | refine aP ?_ | refine aS ?_ | refine bi fun K hK => ?_ | refine aD ?_ | refine ay ?_ | refine ah ?_ | refine av ?_) | (with_reducible refine hK _ ?_;clear hK K) | ((with_reducible refine ai ?_ ?_);(· decide)) | (with_reducible refine aK (hc) ?_))
  refine bO [0,1,2,6,7,8] (by simp only [go_sem,↓reduceIte,Nat.reduceEqDiff,Nat.reduceLT,Nat.reduceLeDiff,Nat.reduceAdd,Nat.reduceSub,Nat.reduceMul,Nat.reduceBEq,Nat.reduceBNe,Nat.reducePow,Int.reduceToNat,Int.reduceLE,Int.reduceLT,Int.reduceMul,Int.reduceEq,Int.reducePow,Int.reduceAdd,Int.reduceSub,Int.reduceNeg,reduceCtorEq];exact rfl) ?_
  exact ih'
 ·have hle' : (((a + 20 : Nat) : Int) ≤ (n : Int)) = False := eq_false (by omega)
  have hc := hins a n ha (Nat.le_refl _)
  clear ih
  repeat' (first | (with_reducible refine hY _ ?_;clear hY Y) | ((with_reducible first | refine aX rfl (aR fun K' hK' => aa ?_) | refine hK' _ (ab fun Y hY => aa ?_) | refine ab fun Y hY => aa ?_ | refine ag tk0 be (ab fun Y hY => aa ?_) | refine aa ?_);(try clear hK' K');(try dsimp only [aop]);try simp only [go_sem,↓reduceIte,Nat.reduceEqDiff,Nat.reduceLT,Nat.reduceLeDiff,Nat.reduceAdd,Nat.reduceSub,Nat.reduceMul,Nat.reduceBEq,Nat.reduceBNe,Nat.reducePow,Int.reduceToNat,Int.reduceLE,Int.reduceLT,Int.reduceMul,Int.reduceEq,Int.reducePow,Int.reduceAdd,Int.reduceSub,Int.reduceNeg,reduceCtorEq,be,Tryz.results127,hle']) | (with_reducible first | refine aI ?_ | refine aP ?_ | refine aS ?_ | refine bi fun K hK => ?_ | refine aC ?_ | refine aO ?_ | refine ax ?_ | refine ah ?_ | refine ar ?_ | refine au ?_) | (with_reducible refine hK _ ?_;clear hK K) | ((with_reducible refine ai ?_ ?_);(· decide)) | (with_reducible refine aK (hc) ?_))
  clear hc hle hle' ha
  refine b7 (α := Nat) (fun s => [(0,.sl (bn t) n .none),(1,inA (n : Int)),(2,iQ),(6,inA (s : Int))]) (fun s => 20 ≤ s) (fun s => n - s) 20 [0,1,2,6] ?_ (Nat.le_refl _) ?_
  ·simp only [go_sem,↓reduceIte,Nat.reduceEqDiff,Nat.reduceLT,Nat.reduceLeDiff,Nat.reduceAdd,Nat.reduceSub,Nat.reduceMul,Nat.reduceBEq,Nat.reduceBNe,Nat.reducePow,Int.reduceToNat,Int.reduceLE,Int.reduceLT,Int.reduceMul,Int.reduceEq,Int.reducePow,Int.reduceAdd,Int.reduceSub,Int.reduceNeg,reduceCtorEq] <;> rfl
  intro s hs ih
  by_cases hlt : s < n
  ·have hlt' : ((s : Int) < (n : Int)) = True := eq_true (by omega)
   have hw2 : IntKind.i64.wrap (2 * (s : Int)) = ((2 * s : Nat) : Int) := by rw [bQ (by omega) (by omega)];omega
   have hw3 : IntKind.i64.wrap ((s : Int) * 2) = ((2 * s : Nat) : Int) := by rw [bQ (by omega) (by omega)];omega
   have ih' := ih (2 * s) (by omega) (by omega)
   clear ih
   repeat' (first | (with_reducible refine hY _ ?_;clear hY Y) | ((with_reducible first | refine aX rfl (aR fun K' hK' => aa ?_) | refine hK' _ (ab fun Y hY => aa ?_) | refine ab fun Y hY => aa ?_ | refine ag tk0 be (ab fun Y hY => aa ?_));(try clear hK' K');(try dsimp only [aop]);try simp only [go_sem,↓reduceIte,Nat.reduceEqDiff,Nat.reduceLT,Nat.reduceLeDiff,Nat.reduceAdd,Nat.reduceSub,Nat.reduceMul,Nat.reduceBEq,Nat.reduceBNe,Nat.reducePow,Int.reduceToNat,Int.reduceLE,Int.reduceLT,Int.reduceMul,Int.reduceEq,Int.reducePow,Int.reduceAdd,Int.reduceSub,Int.reduceNeg,reduceCtorEq,be,Tryz.results127,hlt',hw2]) | (with_reducible first | refine aI ?_ | refine aP ?_ | refine aS ?_ | refine bi fun K hK => ?_ | refine aD ?_ | refine ah ?_ | refine av ?_ | refine au ?_) | (with_reducible refine hK _ ?_;clear hK K) | ((with_reducible refine ai ?_ ?_);(· decide)))
   refine b7 (α := Nat) (fun a => [(0,.sl (bn t) n .none),(1,inA (n : Int)),(2,iQ),(6,inA (s : Int)),(7,inA (a : Int)),(8,inA ((a + 2 * s : Nat) : Int))]) (fun a => a ≤ n) (fun a => n - a) 0 [0,1,2,6,7,8] ?_ (Nat.zero_le _) ?_
   ·simp only [go_sem,↓reduceIte,Nat.reduceEqDiff,Nat.reduceLT,Nat.reduceLeDiff,Nat.reduceAdd,Nat.reduceSub,Nat.reduceMul,Nat.reduceBEq,Nat.reduceBNe,Nat.reducePow,Int.reduceToNat,Int.reduceLE,Int.reduceLT,Int.reduceMul,Int.reduceEq,Int.reducePow,Int.reduceAdd,Int.reduceSub,Int.reduceNeg,reduceCtorEq,Nat.zero_add] <;> rfl
   intro a ha ihi
   by_cases hle : a + 2 * s ≤ n
   ·have hle' : (((a + 2 * s : Nat) : Int) ≤ (n : Int)) = True := eq_true (by omega)
    have hwa := eH (a := a) (b := s) (by omega)
    have hwk := eH (a := a + 2 * s) (b := 2 * s) (by omega)
    have hc := hsym a (a + s) (a + 2 * s) (by omega) (by omega) hle
    have ihi' := ihi (a + 2 * s) hle (by omega)
    clear ihi hins hsym ih'
    repeat' (first | (with_reducible refine hY _ ?_;clear hY Y) | ((with_reducible first | refine aX rfl (aR fun K' hK' => aa ?_) | refine hK' _ (ab fun Y hY => aa ?_) | refine ab fun Y hY => aa ?_ | refine ag tk0 be (ab fun Y hY => aa ?_) | refine aa ?_);(try clear hK' K');(try dsimp only [aop]);try simp only [go_sem,↓reduceIte,Nat.reduceEqDiff,Nat.reduceLT,Nat.reduceLeDiff,Nat.reduceAdd,Nat.reduceSub,Nat.reduceMul,Nat.reduceBEq,Nat.reduceBNe,Nat.reducePow,Int.reduceToNat,Int.reduceLE,Int.reduceLT,Int.reduceMul,Int.reduceEq,Int.reducePow,Int.reduceAdd,Int.reduceSub,Int.reduceNeg,reduceCtorEq,be,Tryz.results127,hle',hwa,hw2,hwk]) | (with_reducible first | refine aI ?_ | refine aP ?_ | refine aS ?_ | refine bi fun K hK => ?_ | refine aD ?_ | refine ay ?_ | refine ah ?_ | refine av ?_) | (with_reducible refine hK _ ?_;clear hK K) | ((with_reducible refine ai ?_ ?_);(· decide)) | (with_reducible refine aK (hc) ?_))
    refine bO [0,1,2,6,7,8] (by simp only [go_sem,↓reduceIte,Nat.reduceEqDiff,Nat.reduceLT,Nat.reduceLeDiff,Nat.reduceAdd,Nat.reduceSub,Nat.reduceMul,Nat.reduceBEq,Nat.reduceBNe,Nat.reducePow,Int.reduceToNat,Int.reduceLE,Int.reduceLT,Int.reduceMul,Int.reduceEq,Int.reducePow,Int.reduceAdd,Int.reduceSub,Int.reduceNeg,reduceCtorEq];exact rfl) ?_
    exact ihi'
   ·have hle' : (((a + 2 * s : Nat) : Int) ≤ (n : Int)) = False := eq_false (by omega)
    have hwa := eH (a := a) (b := s) (by omega)
    clear ihi
    by_cases hm : a + s < n
    ·have hm' : (((a + s : Nat) : Int) < (n : Int)) = True := eq_true (by omega)
     have hc := hsym a (a + s) n (by omega) hm (Nat.le_refl _)
     clear hsym
     repeat' (first | (with_reducible refine hY _ ?_;clear hY Y) | ((with_reducible first | refine aX rfl (aR fun K' hK' => aa ?_) | refine hK' _ (ab fun Y hY => aa ?_) | refine ab fun Y hY => aa ?_ | refine ag tk0 be (ab fun Y hY => aa ?_) | refine aa ?_);(try clear hK' K');(try dsimp only [aop]);try simp only [go_sem,↓reduceIte,Nat.reduceEqDiff,Nat.reduceLT,Nat.reduceLeDiff,Nat.reduceAdd,Nat.reduceSub,Nat.reduceMul,Nat.reduceBEq,Nat.reduceBNe,Nat.reducePow,Int.reduceToNat,Int.reduceLE,Int.reduceLT,Int.reduceMul,Int.reduceEq,Int.reducePow,Int.reduceAdd,Int.reduceSub,Int.reduceNeg,reduceCtorEq,be,Tryz.results127,hle',hwa,hm',hw3]) | (with_reducible first | refine aI ?_ | refine aP ?_ | refine aS ?_ | refine bi fun K hK => ?_ | refine aD ?_ | refine aC ?_ | refine aO ?_ | refine ay ?_ | refine ax ?_ | refine ar ?_) | (with_reducible refine hK _ ?_;clear hK K) | ((with_reducible refine ai ?_ ?_);(· decide)) | (with_reducible refine aK (hc) ?_))
     refine bO [0,1,2,6] (by simp only [go_sem,↓reduceIte,Nat.reduceEqDiff,Nat.reduceLT,Nat.reduceLeDiff,Nat.reduceAdd,Nat.reduceSub,Nat.reduceMul,Nat.reduceBEq,Nat.reduceBNe,Nat.reducePow,Int.reduceToNat,Int.reduceLE,Int.reduceLT,Int.reduceMul,Int.reduceEq,Int.reducePow,Int.reduceAdd,Int.reduceSub,Int.reduceNeg,reduceCtorEq];exact rfl) ?_
     exact ih'
    ·have hm' : (((a + s : Nat) : Int) < (n : Int)) = False := eq_false (by omega)
     clear hsym
     repeat' (first | (with_reducible refine hY _ ?_;clear hY Y) | ((with_reducible first | refine aX rfl (aR fun K' hK' => aa ?_) | refine hK' _ (ab fun Y hY => aa ?_) | refine ab fun Y hY => aa ?_ | refine ag tk0 be (ab fun Y hY => aa ?_));(try clear hK' K');(try dsimp only [aop]);try simp only [go_sem,↓reduceIte,Nat.reduceEqDiff,Nat.reduceLT,Nat.reduceLeDiff,Nat.reduceAdd,Nat.reduceSub,Nat.reduceMul,Nat.reduceBEq,Nat.reduceBNe,Nat.reducePow,Int.reduceToNat,Int.reduceLE,Int.reduceLT,Int.reduceMul,Int.reduceEq,Int.reducePow,Int.reduceAdd,Int.reduceSub,Int.reduceNeg,reduceCtorEq,be,Tryz.results127,hle',hwa,hm',hw3]) | (with_reducible first | refine aI ?_ | refine aP ?_ | refine aS ?_ | refine bi fun K hK => ?_ | refine aC ?_ | refine aO ?_ | refine ay ?_ | refine ax ?_ | refine av ?_ | refine ar ?_) | (with_reducible refine hK _ ?_;clear hK K) | ((with_reducible refine ai ?_ ?_);(· decide)))
     refine bO [0,1,2,6] (by simp only [go_sem,↓reduceIte,Nat.reduceEqDiff,Nat.reduceLT,Nat.reduceLeDiff,Nat.reduceAdd,Nat.reduceSub,Nat.reduceMul,Nat.reduceBEq,Nat.reduceBNe,Nat.reducePow,Int.reduceToNat,Int.reduceLE,Int.reduceLT,Int.reduceMul,Int.reduceEq,Int.reducePow,Int.reduceAdd,Int.reduceSub,Int.reduceNeg,reduceCtorEq];exact rfl) ?_
     exact ih'
  ·have hlt' : ((s : Int) < (n : Int)) = False := eq_false (by omega)
   clear ih hsym
   repeat' (first | (with_reducible refine hY _ ?_;clear hY Y) | ((with_reducible first | refine aX rfl (aR fun K' hK' => aa ?_) | refine hK' _ (ab fun Y hY => aa ?_) | refine ab fun Y hY => aa ?_ | refine ag tk0 be (ab fun Y hY => aa ?_) | refine aa ?_ | refine aG ?_);(try clear hK' K');(try dsimp only [aop]);try simp only [go_sem,↓reduceIte,Nat.reduceEqDiff,Nat.reduceLT,Nat.reduceLeDiff,Nat.reduceAdd,Nat.reduceSub,Nat.reduceMul,Nat.reduceBEq,Nat.reduceBNe,Nat.reducePow,Int.reduceToNat,Int.reduceLE,Int.reduceLT,Int.reduceMul,Int.reduceEq,Int.reducePow,Int.reduceAdd,Int.reduceSub,Int.reduceNeg,reduceCtorEq,be,Tryz.results127,hlt']) | (with_reducible first | refine aI ?_ | refine aP ?_ | refine aS ?_ | refine bi fun K hK => ?_ | refine aC ?_ | refine aO ?_ | refine ax ?_ | refine ar ?_) | (with_reducible refine hK _ ?_;clear hK K) | ((with_reducible refine ai ?_ ?_);(· decide)))
def cF : Nat → List Nat
 | 0 => [0,1]
 | _ => []
set_option maxRecDepth 100000 in
theorem vf (t : List Tm) (ht : nE t) (hl : t.length ≤ 1000000) : AFn Tryz.prog 121 [.sl (bn t) t.length .none,iQ] [] (.tup []) [] := by
 have h1 := vg t ht hl
 have h2 := kQ (n := t.length) (by omega)
 refine bm [] Tryz.func121 rfl Tryz.ntmps121 (Nat.le_of_ble_eq_true rfl) (Nat.le_of_ble_eq_true rfl) fun w0 G0 B0 Pr hB0 => ?_
 simp only [bD,bj,List.cons_append,List.nil_append]
 repeat' (first | (with_reducible refine hY _ ?_;clear hY Y) | ((with_reducible first | refine aX rfl (aR fun K' hK' => aa ?_) | refine hK' _ (ab fun Y hY => aa ?_) | refine ag tk0 cF (ab fun Y hY => aa ?_) | refine aa ?_ | refine aG ?_);(try clear hK' K');(try dsimp only [aop]);try simp only [go_sem,↓reduceIte,Nat.reduceEqDiff,Nat.reduceLT,Nat.reduceLeDiff,Nat.reduceAdd,Nat.reduceSub,Nat.reduceMul,Nat.reduceBEq,Nat.reduceBNe,Nat.reducePow,Int.reduceToNat,Int.reduceLE,Int.reduceLT,Int.reduceMul,Int.reduceEq,Int.reducePow,Int.reduceAdd,Int.reduceSub,Int.reduceNeg,reduceCtorEq,cF,Tryz.results121]) | (with_reducible first | refine aI ?_ | refine bi fun K hK => ?_) | (with_reducible refine hK _ ?_;clear hK K) | (with_reducible refine aK (h1) ?_))
def bq : Nat → List Nat
 | 0 => [0,1]
 | 1 => [0,1]
 | 2 => [0,1,7,8]
 | 3 => [0,1,7,8]
 | 4 => [0,1,5,7,8]
 | 5 => [5]
 | 6 => [0,1,7,8]
 | 7 => []
 | _ => []
def cG : Nat → List Nat
 | 0 => [0,1]
 | 1 => [0,1]
 | _ => []
set_option maxRecDepth 100000 in
set_option maxHeartbeats 8000000 in
theorem yw (l : List Tm) (F : Nat) (p : Tm → Bool) (hF : bx Tryz.prog F = true) (hl : Lg l) (h : ∀ y ∈ l,AFn Tryz.prog F [.agg (tmA y)] [] (.c (.bool (p y))) []) :
  AFn Tryz.prog 128 [.sl (bn l) l.length .none,.fn (.func F) [] []] [] (inA (fiP p l)) [] := by
 unfold Lg at hl
 refine bm [] Tryz.func128 rfl Tryz.ntmps128 (Nat.le_of_ble_eq_true rfl) (Nat.le_of_ble_eq_true rfl) fun w0 G0 B0 Pr hB0 => ?_
 simp only [bD,bj,List.cons_append,List.nil_append]
 repeat' (first | (with_reducible refine hY _ ?_;clear hY Y) | ((with_reducible first | refine aX rfl (aR fun K' hK' => aa ?_) | refine hK' _ (ab fun Y hY => aa ?_) | refine ag tk0 bq (ab fun Y hY => aa ?_));(try clear hK' K');(try dsimp only [aop]);try simp only [go_sem,↓reduceIte,Nat.reduceEqDiff,Nat.reduceLT,Nat.reduceLeDiff,Nat.reduceAdd,Nat.reduceSub,Nat.reduceMul,Nat.reduceBEq,Nat.reduceBNe,Nat.reducePow,Int.reduceToNat,Int.reduceLE,Int.reduceLT,Int.reduceMul,Int.reduceEq,Int.reducePow,Int.reduceAdd,Int.reduceSub,Int.reduceNeg,reduceCtorEq,bq,Tryz.results128]) | (with_reducible first | refine aI ?_ | refine aP ?_ | refine aS ?_ | refine bi fun K hK => ?_ | refine ah ?_ | refine au ?_) | (with_reducible refine hK _ ?_;clear hK K))
 refine b7 (α := Nat) (fun k => [(0,.sl (bn l) l.length .none),(1,.fn (.func F) [] []),(7,inA (l.length : Int)),(8,inA (k : Int))])
  (fun k => k ≤ l.length ∧ ∀ j (hj : j < l.length),j < k → p l[j] = false) (fun k => l.length - k) 0 [0,1,7,8] ?_ ⟨Nat.zero_le _,fun j _ hj => absurd hj (Nat.not_lt_zero _)⟩ ?_
 ·simp only [go_sem,↓reduceIte,Nat.reduceEqDiff,Nat.reduceLT,Nat.reduceLeDiff,Nat.reduceAdd,Nat.reduceSub,Nat.reduceMul,Nat.reduceBEq,Nat.reduceBNe,Nat.reducePow,Int.reduceToNat,Int.reduceLE,Int.reduceLT,Int.reduceMul,Int.reduceEq,Int.reducePow,Int.reduceAdd,Int.reduceSub,Int.reduceNeg,reduceCtorEq] <;> rfl
 rintro k ⟨hk,hall⟩ ih
 by_cases hlt : k < l.length
 ·have hlt' : ((k : Int) < (l.length : Int)) = True := eq_true (by omega)
  have hkw := cC (n := k) (by omega)
  have h1 := h l[k] (List.getElem_mem hlt)
  have hg0 := eM hlt
  have hfl := cM l
  have hfi := kU (p := p) hlt hall
  have hnx : p l[k] = false → ∀ j (hj : j < l.length),j < k + 1 → p l[j] = false := fun e j hj hjk => by
   by_cases hj2 : j < k
   ·exact hall j hj hj2
   ·have : j = k := by omega
    subst this;exact e
  generalize l[k] = t at *
  generalize hp : p t = b at *
  cases b with
  | true =>
   rw [hfi rfl]
   clear ih hfi hnx hall h
   repeat' (first | (with_reducible refine hY _ ?_;clear hY Y) | ((with_reducible first | refine aX rfl (aR fun K' hK' => aa ?_) | refine hK' _ (ab fun Y hY => aa ?_) | refine ab fun Y hY => aa ?_ | refine ag tk0 bq (ab fun Y hY => aa ?_) | refine aa ?_ | refine aH ?_);(try clear hK' K');(try dsimp only [aop]);try simp only [go_sem,↓reduceIte,Nat.reduceEqDiff,Nat.reduceLT,Nat.reduceLeDiff,Nat.reduceAdd,Nat.reduceSub,Nat.reduceMul,Nat.reduceBEq,Nat.reduceBNe,Nat.reducePow,Int.reduceToNat,Int.reduceLE,Int.reduceLT,Int.reduceMul,Int.reduceEq,Int.reducePow,Int.reduceAdd,Int.reduceSub,Int.reduceNeg,reduceCtorEq,bq,Tryz.results128,hlt',hfl,hg0,hkw,hF]) | (with_reducible first | refine aI ?_ | refine aP ?_ | refine aS ?_ | refine bi fun K hK => ?_ | refine aD ?_ | refine aQ ?_ | refine aA ?_ | refine ah ?_ | refine av ?_ | refine aL ?_) | (with_reducible refine hK _ ?_;clear hK K) | ((with_reducible refine ai ?_ ?_);(· decide)) | (with_reducible refine aV ?_ ?_;(· (try and_intros) <;> first | omega | assumption | (simp only [List.length_append,List.length_map,List.length_cons,List.length_nil] <;> omega))) | (with_reducible refine aK (h1) ?_))
  | false =>
   clear hfi
   repeat' (first | (with_reducible refine hY _ ?_;clear hY Y) | ((with_reducible first | refine aX rfl (aR fun K' hK' => aa ?_) | refine hK' _ (ab fun Y hY => aa ?_) | refine ab fun Y hY => aa ?_ | refine ag tk0 bq (ab fun Y hY => aa ?_) | refine aa ?_);(try clear hK' K');(try dsimp only [aop]);try simp only [go_sem,↓reduceIte,Nat.reduceEqDiff,Nat.reduceLT,Nat.reduceLeDiff,Nat.reduceAdd,Nat.reduceSub,Nat.reduceMul,Nat.reduceBEq,Nat.reduceBNe,Nat.reducePow,Int.reduceToNat,Int.reduceLE,Int.reduceLT,Int.reduceMul,Int.reduceEq,Int.reducePow,Int.reduceAdd,Int.reduceSub,Int.reduceNeg,reduceCtorEq,bq,Tryz.results128,hlt',hfl,hg0,hkw,hF]) | (with_reducible first | refine aI ?_ | refine aP ?_ | refine aS ?_ | refine bi fun K hK => ?_ | refine aD ?_ | refine aC ?_ | refine ay ?_ | refine ah ?_ | refine av ?_) | (with_reducible refine hK _ ?_;clear hK K) | ((with_reducible refine ai ?_ ?_);(· decide)) | (with_reducible refine aV ?_ ?_;(· (try and_intros) <;> first | omega | assumption | (simp only [List.length_append,List.length_map,List.length_cons,List.length_nil] <;> omega))) | (with_reducible refine aK (h1) ?_))
   refine bO [0,1,7,8] (by simp only [go_sem,↓reduceIte,Nat.reduceEqDiff,Nat.reduceLT,Nat.reduceLeDiff,Nat.reduceAdd,Nat.reduceSub,Nat.reduceMul,Nat.reduceBEq,Nat.reduceBNe,Nat.reducePow,Int.reduceToNat,Int.reduceLE,Int.reduceLT,Int.reduceMul,Int.reduceEq,Int.reducePow,Int.reduceAdd,Int.reduceSub,Int.reduceNeg,reduceCtorEq];exact rfl) ?_
   exact ih (k + 1) ⟨by omega,hnx rfl⟩ (by omega)
 ·have hlt' : ((k : Int) < (l.length : Int)) = False := eq_false (by omega)
  rw [kV fun j hj => hall j hj (by omega)]
  clear ih h hall
  repeat' (first | (with_reducible refine hY _ ?_;clear hY Y) | ((with_reducible first | refine aX rfl (aR fun K' hK' => aa ?_) | refine hK' _ (ab fun Y hY => aa ?_) | refine ab fun Y hY => aa ?_ | refine ag tk0 bq (ab fun Y hY => aa ?_) | refine aa ?_ | refine aH ?_);(try clear hK' K');(try dsimp only [aop]);try simp only [go_sem,↓reduceIte,Nat.reduceEqDiff,Nat.reduceLT,Nat.reduceLeDiff,Nat.reduceAdd,Nat.reduceSub,Nat.reduceMul,Nat.reduceBEq,Nat.reduceBNe,Nat.reducePow,Int.reduceToNat,Int.reduceLE,Int.reduceLT,Int.reduceMul,Int.reduceEq,Int.reducePow,Int.reduceAdd,Int.reduceSub,Int.reduceNeg,reduceCtorEq,bq,Tryz.results128,hlt']) | (with_reducible first | refine aI ?_ | refine aP ?_ | refine aS ?_ | refine bi fun K hK => ?_ | refine aC ?_ | refine aO ?_ | refine ax ?_ | refine aL ?_ | refine ar ?_) | (with_reducible refine hK _ ?_;clear hK K) | ((with_reducible refine ai ?_ ?_);(· decide)))
set_option maxRecDepth 100000 in
theorem yq (l : List Tm) (F : Nat) (p : Tm → Bool) (hF : bx Tryz.prog F = true) (hl : Lg l) (h : ∀ y ∈ l,AFn Tryz.prog F [.agg (tmA y)] [] (.c (.bool (p y))) []) :
  AFn Tryz.prog 123 [.sl (bn l) l.length .none,.fn (.func F) [] []] [] (.c (.bool (l.any p))) [] := by
 have h1 := yw l F p hF hl h
 have h2 : decide (0 ≤ fiP p l) = l.any p := jI p l
 refine bm [] Tryz.func123 rfl Tryz.ntmps123 (Nat.le_of_ble_eq_true rfl) (Nat.le_of_ble_eq_true rfl) fun w0 G0 B0 Pr hB0 => ?_
 simp only [bD,bj,List.cons_append,List.nil_append]
 repeat' (first | (with_reducible refine hY _ ?_;clear hY Y) | ((with_reducible first | refine aX rfl (aR fun K' hK' => aa ?_) | refine hK' _ (ab fun Y hY => aa ?_) | refine ag tk0 cG (ab fun Y hY => aa ?_) | refine aa ?_ | refine aH ?_);(try clear hK' K');(try dsimp only [aop]);try simp only [go_sem,↓reduceIte,Nat.reduceEqDiff,Nat.reduceLT,Nat.reduceLeDiff,Nat.reduceAdd,Nat.reduceSub,Nat.reduceMul,Nat.reduceBEq,Nat.reduceBNe,Nat.reducePow,Int.reduceToNat,Int.reduceLE,Int.reduceLT,Int.reduceMul,Int.reduceEq,Int.reducePow,Int.reduceAdd,Int.reduceSub,Int.reduceNeg,reduceCtorEq,cG,Tryz.results123,h2]) | (with_reducible first | refine aI ?_ | refine aP ?_ | refine aS ?_ | refine bi fun K hK => ?_ | refine aL ?_) | (with_reducible refine hK _ ?_;clear hK K) | (with_reducible refine aK (h1) ?_))
def eB : Nat → List Nat
 | 0 => [0]
 | 1 => [1]
 | _ => []
theorem xy : bx Tryz.prog 124 = true := by kernel_rfl
set_option maxRecDepth 100000 in
theorem y5 (m : Tm) : AFn Tryz.prog 124 [.agg (tmA m)] [] (.c (.bool (!dc m.2))) [] := by
 have h := nN m.2
 obtain ⟨v,x⟩ := m
 simp only at h ⊢
 refine bm [] Tryz.func124 rfl Tryz.ntmps124 (Nat.le_of_ble_eq_true rfl) (Nat.le_of_ble_eq_true rfl) fun w0 G0 B0 Pr hB0 => ?_
 simp only [bD,bj,List.cons_append,List.nil_append]
 repeat' (first | (with_reducible refine hY _ ?_;clear hY Y) | ((with_reducible first | refine aX rfl (aR fun K' hK' => aa ?_) | refine hK' _ (ab fun Y hY => aa ?_) | refine ag tk0 eB (ab fun Y hY => aa ?_) | refine aa ?_ | refine aH ?_);(try clear hK' K');(try dsimp only [aop]);try simp only [go_sem,↓reduceIte,Nat.reduceEqDiff,Nat.reduceLT,Nat.reduceLeDiff,Nat.reduceAdd,Nat.reduceSub,Nat.reduceMul,Nat.reduceBEq,Nat.reduceBNe,Nat.reducePow,Int.reduceToNat,Int.reduceLE,Int.reduceLT,Int.reduceMul,Int.reduceEq,Int.reducePow,Int.reduceAdd,Int.reduceSub,Int.reduceNeg,reduceCtorEq,eB,Tryz.results124]) | (with_reducible first | refine aI ?_ | refine aP ?_ | refine aS ?_ | refine bi fun K hK => ?_ | refine aL ?_) | (with_reducible refine hK _ ?_;clear hK K) | (with_reducible refine aK (h) ?_))
end Go.Proofs.YtmpdocplcgbpkaaGreatDoor
namespace Go.Proofs.YtmpdocplcgbpkaaGreatDoor
set_option linter.unusedSimpArgs false
set_option linter.unusedVariables false
open Go.RowKit
def bY : Nat → List Nat
 | 0 => [0,1]
 | 1 => [0,1,4]
 | 2 => [0,1,4]
 | 3 => [0,1,4]
 | 4 => [0,1,4,6]
 | 5 => [0,1,4,6,7]
 | 6 => [0,1,4,6,7]
 | 7 => [0,1,4,6,7,8]
 | 8 => [0,1,4,6,7,8]
 | 9 => [0,1,4,6,7,8]
 | 10 => [0,1,4,6,7,8]
 | 11 => [0,1,4,6,7,8]
 | 12 => [0,1,4,6,7,8]
 | 13 => [0,4,6]
 | 14 => [4]
 | 15 => [4,6]
 | 16 => [4]
 | 17 => [4,6]
 | _ => []
set_option maxRecDepth 100000 in
set_option maxHeartbeats 16000000 in
theorem zx (c : Int) (t : List Tm) (ht : nE t) (hk : ∀ m ∈ t,m.2 ≠ 0 ∧ dc m.2 = true) (hl : t.length ≤ 64) (q : Nat × Ln) (hq : q = if dc c then (0,⟨c,t⟩) else (3,⟨0,[]⟩)) :
  AFn Tryz.prog 113 [inA c,.sl (bn t) t.length .none] [] (kN q) [] := by
 have hcl := jX t .none (.inl rfl) (by omega)
 have hso := vf t ht (by omega)
 have hcf := nN c
 have hhas := yq t 124 (fun m => !dc m.2) xy (by unfold Lg;omega) fun y _ => y5 y
 rw [show t.any (fun m => !dc m.2) = false by rw [List.any_eq_false];intro x hx;rw [(hk x hx).2];simp] at hhas
 have h64 : ((64 : Int) < (t.length : Int)) = False := eq_false (by omega)
 have hfl := cM t
 refine bm [] Tryz.func113 rfl Tryz.ntmps113 (Nat.le_of_ble_eq_true rfl) (Nat.le_of_ble_eq_true rfl) fun w0 G0 B0 Pr hB0 => ?_
 simp only [bD,bj,List.cons_append,List.nil_append]
 repeat' (first | (with_reducible refine hY _ ?_;clear hY Y) | ((with_reducible first | refine aX rfl (aR fun K' hK' => aa ?_) | refine hK' _ (ab fun Y hY => aa ?_) | refine ag tk0 bY (ab fun Y hY => aa ?_) | refine aa ?_);(try clear hK' K');(try dsimp only [aop]);try simp only [go_sem,↓reduceIte,Nat.reduceEqDiff,Nat.reduceLT,Nat.reduceLeDiff,Nat.reduceAdd,Nat.reduceSub,Nat.reduceMul,Nat.reduceBEq,Nat.reduceBNe,Nat.reducePow,Int.reduceToNat,Int.reduceLE,Int.reduceLT,Int.reduceMul,Int.reduceEq,Int.reducePow,Int.reduceAdd,Int.reduceSub,Int.reduceNeg,reduceCtorEq,bY,Tryz.results113]) | (with_reducible first | refine aI ?_ | refine aP ?_ | refine aS ?_ | refine bi fun K hK => ?_ | refine ah ?_ | refine au ?_) | (with_reducible refine hK _ ?_;clear hK K) | (with_reducible refine aK (hcl) ?_) | (with_reducible refine aK (hso) ?_))
 refine d5 (dk (b := 10057) (k0 := 10006) (i := 1) 94 (by decide) (by decide) (by decide) rfl rfl rfl) ?_
 refine b7 (α := Nat) (fun k => [(0,inA c),(1,.sl (bn t) t.length .none),(4,.loc 10004 0),(6,.loc 10006 0),(7,inA (k : Int)),(10004,.bc [inA 0,.sl [] 0 .full] 24),(10006,.bc [inA c,.sl (bn (t.take k)) k (.tok 10057)] 24),(10057,.bt k 94)])
  (fun k => k ≤ t.length) (fun k => t.length - k) 0 [0,1,4,6,7] ?_ (Nat.zero_le _) ?_
 ·simp only [go_sem,↓reduceIte,Nat.reduceEqDiff,Nat.reduceLT,Nat.reduceLeDiff,Nat.reduceAdd,Nat.reduceSub,Nat.reduceMul,Nat.reduceBEq,Nat.reduceBNe,Nat.reducePow,Int.reduceToNat,Int.reduceLE,Int.reduceLT,Int.reduceMul,Int.reduceEq,Int.reducePow,Int.reduceAdd,Int.reduceSub,Int.reduceNeg,reduceCtorEq] <;> rfl
 intro k hkl ih
 by_cases hlt : k < t.length
 ·have hlt' : ((k : Int) < (t.length : Int)) = True := eq_true (by omega)
  have hkw := cC (n := k) (by omega)
  have hg0 := eM hlt
  have htk : (bn (t.take k)).length = k * 2 := by rw [cM,List.length_take];omega
  have hne := (hk _ (List.getElem_mem hlt)).1
  have ih' := ih (k + 1) (by omega) (by omega)
  rw [show t.take (k + 1) = t.take k ++ [t[k]] from List.take_succ_eq_append_getElem hlt,ig] at ih'
  clear ih hhas hcf hso hcl
  by_cases hn : k + 1 < t.length
  ·have hn' : (((k + 1 : Nat) : Int) < (t.length : Int)) = True := eq_true (by omega)
   have hg1 := rF hn
   have hd : (t[k + 1].1 = t[k].1) = False := eq_false (by have := ht.1 k (k + 1) hlt hn (by omega);omega)
   clear ht hk
   generalize t[k + 1].1 = w at *
   generalize t[k] = m at *
   obtain ⟨v,x⟩ := m
   simp only at hne hg0 ih' hd
   have hx0 : (x = 0) = False := eq_false hne
   generalize bn (t.take k) = T at *
   repeat' (first | (with_reducible refine hY _ ?_;clear hY Y) | ((with_reducible first | refine aX rfl (aR fun K' hK' => aa ?_) | refine hK' _ (ab fun Y hY => aa ?_) | refine ab fun Y hY => aa ?_ | refine ag tk0 bY (ab fun Y hY => aa ?_));(try clear hK' K');(try dsimp only [aop]);try simp only [go_sem,↓reduceIte,Nat.reduceEqDiff,Nat.reduceLT,Nat.reduceLeDiff,Nat.reduceAdd,Nat.reduceSub,Nat.reduceMul,Nat.reduceBEq,Nat.reduceBNe,Nat.reducePow,Int.reduceToNat,Int.reduceLE,Int.reduceLT,Int.reduceMul,Int.reduceEq,Int.reducePow,Int.reduceAdd,Int.reduceSub,Int.reduceNeg,reduceCtorEq,bY,Tryz.results113,hlt',hg0,hkw,hfl,hx0,htk]) | (with_reducible first | refine aI ?_ | refine aP ?_ | refine aS ?_ | refine bi fun K hK => ?_ | refine aD ?_ | refine ah ?_ | refine av ?_ | refine au ?_) | (with_reducible refine hK _ ?_;clear hK K) | ((with_reducible refine ai ?_ ?_);(· decide)) | (with_reducible refine aV ?_ ?_;(· (try and_intros) <;> first | omega | assumption | (simp only [List.length_append,List.length_map,List.length_cons,List.length_nil] <;> omega))))
   refine fb ?_
   repeat' (first | (with_reducible refine hY _ ?_;clear hY Y) | ((with_reducible first | refine aX rfl (aR fun K' hK' => aa ?_) | refine hK' _ (ab fun Y hY => aa ?_) | refine ab fun Y hY => aa ?_ | refine ag tk0 bY (ab fun Y hY => aa ?_) | refine aN rfl (ap fun K' hK' => aa ?_) | refine hK' _ _ (ab fun Y hY => aa ?_) | refine aM rfl (ab fun Y hY => aa ?_) | refine ap fun K' hK' => aa ?_);(try clear hK' K');(try dsimp only [aop]);try simp only [go_sem,↓reduceIte,Nat.reduceEqDiff,Nat.reduceLT,Nat.reduceLeDiff,Nat.reduceAdd,Nat.reduceSub,Nat.reduceMul,Nat.reduceBEq,Nat.reduceBNe,Nat.reducePow,Int.reduceToNat,Int.reduceLE,Int.reduceLT,Int.reduceMul,Int.reduceEq,Int.reducePow,Int.reduceAdd,Int.reduceSub,Int.reduceNeg,reduceCtorEq,bY,Tryz.results113,hn',hg1,hd,hfl,hx0,htk]) | (with_reducible first | refine aI ?_ | refine ao ?_ | refine aP ?_ | refine aS ?_ | refine bi fun K hK => ?_ | refine aD ?_ | refine aC ?_ | refine aO ?_ | refine ay ?_ | refine ax ?_ | refine ar ?_ | refine aj ?_ | refine bh fun K hK => ?_) | (with_reducible refine hK _ ?_;clear hK K) | (with_reducible refine hK _ _ ?_ ?_;(· kernel_rfl);clear hK K) | ((with_reducible first | refine aF ?_ ?_ | refine ai ?_ ?_);(· decide)) | (with_reducible refine aq tk0 bY ?_ ?_;(· kernel_rfl)) | (with_reducible refine aV ?_ ?_;(· (try and_intros) <;> first | omega | assumption | (simp only [List.length_append,List.length_map,List.length_cons,List.length_nil] <;> omega))))
   refine bO [0,1,4,6,7] (by simp only [go_sem,↓reduceIte,Nat.reduceEqDiff,Nat.reduceLT,Nat.reduceLeDiff,Nat.reduceAdd,Nat.reduceSub,Nat.reduceMul,Nat.reduceBEq,Nat.reduceBNe,Nat.reducePow,Int.reduceToNat,Int.reduceLE,Int.reduceLT,Int.reduceMul,Int.reduceEq,Int.reducePow,Int.reduceAdd,Int.reduceSub,Int.reduceNeg,reduceCtorEq];exact rfl) ?_
   refine gF ih' ?_
   simp [bn]
  ·have hn' : (((k + 1 : Nat) : Int) < (t.length : Int)) = False := eq_false (by omega)
   clear ht hk
   generalize t[k] = m at *
   obtain ⟨v,x⟩ := m
   simp only at hne hg0 ih'
   have hx0 : (x = 0) = False := eq_false hne
   generalize bn (t.take k) = T at *
   repeat' (first | (with_reducible refine hY _ ?_;clear hY Y) | ((with_reducible first | refine aX rfl (aR fun K' hK' => aa ?_) | refine hK' _ (ab fun Y hY => aa ?_) | refine ab fun Y hY => aa ?_ | refine ag tk0 bY (ab fun Y hY => aa ?_));(try clear hK' K');(try dsimp only [aop]);try simp only [go_sem,↓reduceIte,Nat.reduceEqDiff,Nat.reduceLT,Nat.reduceLeDiff,Nat.reduceAdd,Nat.reduceSub,Nat.reduceMul,Nat.reduceBEq,Nat.reduceBNe,Nat.reducePow,Int.reduceToNat,Int.reduceLE,Int.reduceLT,Int.reduceMul,Int.reduceEq,Int.reducePow,Int.reduceAdd,Int.reduceSub,Int.reduceNeg,reduceCtorEq,bY,Tryz.results113,hlt',hg0,hkw,hfl,hx0,htk]) | (with_reducible first | refine aI ?_ | refine aP ?_ | refine aS ?_ | refine bi fun K hK => ?_ | refine aD ?_ | refine ah ?_ | refine av ?_ | refine au ?_) | (with_reducible refine hK _ ?_;clear hK K) | ((with_reducible refine ai ?_ ?_);(· decide)) | (with_reducible refine aV ?_ ?_;(· (try and_intros) <;> first | omega | assumption | (simp only [List.length_append,List.length_map,List.length_cons,List.length_nil] <;> omega))))
   refine fb ?_
   repeat' (first | (with_reducible refine hY _ ?_;clear hY Y) | ((with_reducible first | refine aX rfl (aR fun K' hK' => aa ?_) | refine hK' _ (ab fun Y hY => aa ?_) | refine ab fun Y hY => aa ?_ | refine ag tk0 bY (ab fun Y hY => aa ?_) | refine aa ?_ | refine aN rfl (ap fun K' hK' => aa ?_) | refine hK' _ _ (ab fun Y hY => aa ?_) | refine aM rfl (ab fun Y hY => aa ?_));(try clear hK' K');(try dsimp only [aop]);try simp only [go_sem,↓reduceIte,Nat.reduceEqDiff,Nat.reduceLT,Nat.reduceLeDiff,Nat.reduceAdd,Nat.reduceSub,Nat.reduceMul,Nat.reduceBEq,Nat.reduceBNe,Nat.reducePow,Int.reduceToNat,Int.reduceLE,Int.reduceLT,Int.reduceMul,Int.reduceEq,Int.reducePow,Int.reduceAdd,Int.reduceSub,Int.reduceNeg,reduceCtorEq,bY,Tryz.results113,hn',hfl,hx0,htk]) | (with_reducible first | refine aI ?_ | refine am rfl ?_ | refine bg ?_ ?_ | refine aP ?_ | refine aS ?_ | refine bi fun K hK => ?_ | refine aD ?_ | refine aC ?_ | refine aO ?_ | refine ay ?_ | refine ax ?_ | refine ar ?_ | refine aj ?_ | refine bh fun K hK => ?_) | (with_reducible refine hK _ ?_;clear hK K) | (with_reducible refine hK _ _ ?_ ?_;(· kernel_rfl);clear hK K) | ((with_reducible first | refine aF ?_ ?_ | refine ai ?_ ?_);(· decide)) | (with_reducible refine aq tk0 bY ?_ ?_;(· kernel_rfl)) | (with_reducible refine aV ?_ ?_;(· (try and_intros) <;> first | omega | assumption | (simp only [List.length_append,List.length_map,List.length_cons,List.length_nil] <;> omega))))
   refine bO [0,1,4,6,7] (by simp only [go_sem,↓reduceIte,Nat.reduceEqDiff,Nat.reduceLT,Nat.reduceLeDiff,Nat.reduceAdd,Nat.reduceSub,Nat.reduceMul,Nat.reduceBEq,Nat.reduceBNe,Nat.reducePow,Int.reduceToNat,Int.reduceLE,Int.reduceLT,Int.reduceMul,Int.reduceEq,Int.reducePow,Int.reduceAdd,Int.reduceSub,Int.reduceNeg,reduceCtorEq];exact rfl) ?_
   refine gF ih' ?_
   simp [bn]
 ·have hlt' : ((k : Int) < (t.length : Int)) = False := eq_false (by omega)
  obtain rfl : k = t.length := by omega
  rw [List.take_of_length_le (by omega)]
  clear ih hk ht hso hcl
  cases hc : dc c with
  | true =>
   rw [hc] at hcf
   rw [hq,hc,if_pos rfl,iC]
   repeat' (first | (with_reducible refine hY _ ?_;clear hY Y) | ((with_reducible first | refine aX rfl (aR fun K' hK' => aa ?_) | refine hK' _ (ab fun Y hY => aa ?_) | refine aW rfl (ab fun Y hY => aa ?_) | refine ab fun Y hY => aa ?_ | refine aR fun K' hK' => aa ?_ | refine ag tk0 bY (ab fun Y hY => aa ?_) | refine aa ?_ | refine aH ?_);(try clear hK' K');(try dsimp only [aop]);try simp only [go_sem,↓reduceIte,Nat.reduceEqDiff,Nat.reduceLT,Nat.reduceLeDiff,Nat.reduceAdd,Nat.reduceSub,Nat.reduceMul,Nat.reduceBEq,Nat.reduceBNe,Nat.reducePow,Int.reduceToNat,Int.reduceLE,Int.reduceLT,Int.reduceMul,Int.reduceEq,Int.reducePow,Int.reduceAdd,Int.reduceSub,Int.reduceNeg,reduceCtorEq,bY,Tryz.results113,hlt',h64]) | (with_reducible first | refine aI ?_ | refine ao ?_ | refine aP ?_ | refine aS ?_ | refine bi fun K hK => ?_ | refine aC ?_ | refine aO ?_ | refine ax ?_ | refine av ?_ | refine aL ?_ | refine ar ?_) | (with_reducible refine hK _ ?_;clear hK K) | ((with_reducible first | refine aF ?_ ?_ | refine ai ?_ ?_);(· decide)) | (with_reducible refine aK (hcf) ?_) | (with_reducible refine aK (dd hhas ?_) ?_;(· simp [c6])))
  | false =>
   rw [hc] at hcf
   rw [hq,hc,if_neg (by decide),jO]
   repeat' (first | (with_reducible refine hY _ ?_;clear hY Y) | ((with_reducible first | refine aX rfl (aR fun K' hK' => aa ?_) | refine hK' _ (ab fun Y hY => aa ?_) | refine aW rfl (ab fun Y hY => aa ?_) | refine ab fun Y hY => aa ?_ | refine ag tk0 bY (ab fun Y hY => aa ?_) | refine aa ?_ | refine aH ?_);(try clear hK' K');(try dsimp only [aop]);try simp only [go_sem,↓reduceIte,Nat.reduceEqDiff,Nat.reduceLT,Nat.reduceLeDiff,Nat.reduceAdd,Nat.reduceSub,Nat.reduceMul,Nat.reduceBEq,Nat.reduceBNe,Nat.reducePow,Int.reduceToNat,Int.reduceLE,Int.reduceLT,Int.reduceMul,Int.reduceEq,Int.reducePow,Int.reduceAdd,Int.reduceSub,Int.reduceNeg,reduceCtorEq,bY,Tryz.results113,hlt',h64]) | (with_reducible first | refine aI ?_ | refine am rfl ?_ | refine bg ?_ ?_ | refine aP ?_ | refine aS ?_ | refine bi fun K hK => ?_ | refine aD ?_ | refine aC ?_ | refine aO ?_ | refine aQ ?_ | refine ax ?_ | refine aL ?_ | refine ar ?_) | (with_reducible refine hK _ ?_;clear hK K) | ((with_reducible first | refine aF ?_ ?_ | refine ai ?_ ?_);(· decide)) | (with_reducible refine aK (hcf) ?_))
end Go.Proofs.YtmpdocplcgbpkaaGreatDoor
namespace Go.Proofs.YtmpdocplcgbpkaaGreatDoor
set_option linter.unusedSimpArgs false
set_option linter.unusedVariables false
open Go.RowKit
theorem up : ∀ (last : Int) (t : List Tm),db last t = true → nE t
 | _,[],_ => ⟨fun i j hi _ _ => absurd hi (Nat.not_lt_zero _),fun i hi => absurd hi (Nat.not_lt_zero _)⟩
 | last,m :: r,h => by
  have h0 := h
  unfold db at h
  rw [Bool.and_eq_true] at h
  have ih := up m.1 r h.2
  have hok := fI m.1 r h.2
  have hm := (fI last (m :: r) h0 m (by simp)).1
  refine ⟨fun i j hi hj hij => ?_,fun i hi => ?_⟩
  ·cases j with
   | zero => omega
   | succ j =>
    have hj' : j < r.length := by simpa using hj
    cases i with
    | zero => exact (hok r[j] (List.getElem_mem hj')).2.2
    | succ i =>
     have hi' : i < r.length := by simpa using hi
     exact ih.1 i j hi' hj' (by omega)
  ·cases i with
   | zero => exact ⟨hm.1,hm.2.1⟩
   | succ i =>
    have hi' : i < r.length := by simpa using hi
    exact ih.2 i hi'
theorem oF (x : Int) {t : List Tm} {k : Nat} (h : k < t.length) : c4 x (t.take (k + 1)) = c4 x (t.take k) ++ [(t[k].1,x * t[k].2)] := by
 unfold c4
 rw [List.take_succ_eq_append_getElem h,List.map_append];rfl
def eC : Nat → List Nat
 | 0 => [0]
 | 1 => [0]
 | _ => []
theorem sm (x : Int) (h1 : -4096 ≤ x) (h2 : x ≤ 4096) : AFn Tryz.prog 112 [inA x] [] (.c (.bool true)) [] := by
 have e1 : ((-4096 : Int) ≤ x) = True := eq_true h1
 have e2 : (x ≤ 4096) = True := eq_true h2
 refine bm [] Tryz.func112 rfl Tryz.ntmps112 (Nat.le_of_ble_eq_true rfl) (Nat.le_of_ble_eq_true rfl) fun w0 G0 B0 Pr hB0 => ?_
 simp only [bD,bj,List.cons_append,List.nil_append]
 repeat' (first | (with_reducible refine hY _ ?_;clear hY Y) | ((with_reducible first | refine aX rfl (aR fun K' hK' => aa ?_) | refine hK' _ (ab fun Y hY => aa ?_) | refine aW rfl (ab fun Y hY => aa ?_) | refine ab fun Y hY => aa ?_ | refine aR fun K' hK' => aa ?_ | refine ag tk0 eC (ab fun Y hY => aa ?_) | refine aa ?_ | refine aH ?_);(try clear hK' K');(try dsimp only [aop]);try simp only [go_sem,↓reduceIte,Nat.reduceEqDiff,Nat.reduceLT,Nat.reduceLeDiff,Nat.reduceAdd,Nat.reduceSub,Nat.reduceMul,Nat.reduceBEq,Nat.reduceBNe,Nat.reducePow,Int.reduceToNat,Int.reduceLE,Int.reduceLT,Int.reduceMul,Int.reduceEq,Int.reducePow,Int.reduceAdd,Int.reduceSub,Int.reduceNeg,reduceCtorEq,eC,Tryz.results112,e1,e2]) | (with_reducible first | refine aI ?_ | refine ao ?_ | refine aP ?_ | refine aS ?_ | refine bi fun K hK => ?_ | refine aL ?_) | (with_reducible refine hK _ ?_;clear hK K) | ((with_reducible refine aF ?_ ?_);(· decide)))
def cw : Nat → List Nat
 | 0 => [0,1,2,3]
 | 1 => [2,3,4,5,8]
 | 2 => [8]
 | 3 => [2,3,4,5,8]
 | 4 => [8]
 | 5 => [2,3,4,5,8]
 | 6 => [2,3,4,5,8,10]
 | 7 => [2,3,4,5,8,10,38,39,40]
 | 8 => [2,3,4,5,8,10,38,39,40]
 | 9 => [2,3,4,5,8,10,12,38,39,40]
 | 10 => [2,3,4,5,8,10,38,39,40]
 | 11 => [2,3,4,5,8,10]
 | 12 => [2,3,4,5,8,10,56,57,58]
 | 13 => [2,3,4,5,8,10,56,57,58]
 | 14 => [2,3,4,5,8,10,14,56,57,58]
 | 15 => [2,3,4,5,8,10,56,57,58]
 | 16 => [2,3,4,5,8,10]
 | _ => []
set_option maxRecDepth 100000 in
set_option maxHeartbeats 16000000 in
theorem tK (l : Ln) (d y : Int) (hd : 0 ≤ d ∧ d ≤ 1) (hy : d = y) (hl : dg l = true) (q : Nat × Ln) (hq : q = if dc (d - l.c) then (0,⟨d - l.c,c4 (-1) l.t⟩) else (3,⟨0,[]⟩)) :
  AFn Tryz.prog 80 [.agg (lnA l),.agg [inA d,.sl [] 0 .full],inA (-1),inA y] [] (kN q) [] := by
 obtain ⟨⟨c1,c2⟩,h64,hm⟩ := fi hl
 have hts : db (-1) l.t = true := by unfold dg at hl;simp only [Bool.and_eq_true] at hl;exact hl.2.2
 have hts2 := mr _ _ hts
 have hok2 := fI _ _ hts2
 have hca : AFn Tryz.prog 78 [.agg (lnA l)] [] (.c .nilIface) [] := by
  have := ew l
  rw [show iw l = cK 0 by unfold iw;rw [hl];rfl] at this
  exact this
 have hd0 : dg ⟨d,[]⟩ = true := by unfold dg;rw [show dc d = true from coefB_iff.2 (by omega)];rfl
 have hcb0 := ew ⟨d,[]⟩
 rw [show iw ⟨d,[]⟩ = cK 0 by unfold iw;rw [hd0];rfl] at hcb0
 have hcb : AFn Tryz.prog 78 [.agg [inA d,.sl [] 0 .full]] [] (.c .nilIface) [] := gN 2 hcb0 (by simp [wkD,bn])
 have hlen : (c4 (-1) l.t).length = l.t.length := List.length_map ..
 have hsum := zx (d - l.c) (c4 (-1) l.t) (up _ _ hts2) (fun m hmm => ⟨(hok2 m hmm).2.1,coefB_iff.2 ⟨(hok2 m hmm).1.2.2.1,(hok2 m hmm).1.2.2.2⟩⟩) (by omega) q hq
 rw [hlen] at hsum
 have ht1 := sm (-1) (by decide) (by decide)
 have ht2 := sm y (by omega) (by omega)
 have hwy : IntKind.i64.wrap (y * d) = d := by
  have : y * d = d := by
   rcases (show d = 0 ∨ d = 1 by omega) with h | h
   ·rw [h];simp
   ·rw [← hy,h];rfl
  rw [this];exact bQ (by omega) (by omega)
 have hwc : IntKind.i64.wrap (-1 * l.c) = -l.c := by rw [bQ (by omega) (by omega)];omega
 have hwn : IntKind.i64.wrap (-l.c) = -l.c := bQ (by omega) (by omega)
 have hws : IntKind.i64.wrap (-l.c + d) = d - l.c := by rw [bQ (by omega) (by omega)];omega
 clear hts hts2 hok2 hl hd0 hcb0
 obtain ⟨c,t⟩ := l
 simp only at *
 refine bm [] Tryz.func80 rfl Tryz.ntmps80 (Nat.le_of_ble_eq_true rfl) (Nat.le_of_ble_eq_true rfl) fun w0 G0 B0 Pr hB0 => ?_
 simp only [bD,bj,List.cons_append,List.nil_append]
 repeat' (first | (with_reducible refine hY _ ?_;clear hY Y) | ((with_reducible first | refine aX rfl (aR fun K' hK' => aa ?_) | refine hK' _ (ab fun Y hY => aa ?_) | refine aW rfl (ab fun Y hY => aa ?_) | refine ab fun Y hY => aa ?_ | refine aR fun K' hK' => aa ?_ | refine ag tk0 cw (ab fun Y hY => aa ?_) | refine aa ?_);(try clear hK' K');(try dsimp only [aop]);try simp only [go_sem,↓reduceIte,Nat.reduceEqDiff,Nat.reduceLT,Nat.reduceLeDiff,Nat.reduceAdd,Nat.reduceSub,Nat.reduceMul,Nat.reduceBEq,Nat.reduceBNe,Nat.reducePow,Int.reduceToNat,Int.reduceLE,Int.reduceLT,Int.reduceMul,Int.reduceEq,Int.reducePow,Int.reduceAdd,Int.reduceSub,Int.reduceNeg,reduceCtorEq,cw,Tryz.results80]) | (with_reducible first | refine aI ?_ | refine ao ?_ | refine aP ?_ | refine aS ?_ | refine bi fun K hK => ?_ | refine aC ?_ | refine ay ?_ | refine ah ?_ | refine av ?_ | refine au ?_) | (with_reducible refine hK _ ?_;clear hK K) | ((with_reducible first | refine aF ?_ ?_ | refine ai ?_ ?_);(· decide)) | (with_reducible refine aK (hca) ?_) | (with_reducible refine aK (hcb) ?_) | (with_reducible refine aK (ht1) ?_) | (with_reducible refine aK (ht2) ?_) | (with_reducible refine ce (cu) ?_))
 refine d5 (gv (b := 10053) (t := 10) 94 (by decide) (by decide) rfl rfl) ?_
 refine b7 (α := Nat) (fun k => [(2,inA (-1)),(3,inA y),(4,.loc 10004 0),(5,.loc 10005 0),(8,.loc 10008 0),(10,.sl (bn (c4 (-1) (t.take k))) k (.tok 10053)),(38,.sl (bn t) t.length .none),(39,inA (t.length : Int)),(40,inA (k : Int)),(10004,.bc [inA c,.sl (bn t) t.length .none] 24),(10005,.bc [inA d,.sl [] 0 .full] 24),(10008,.bc [inA 0,.sl [] 0 .full] 24),(10053,.bt k 94)])
  (fun k => k ≤ t.length) (fun k => t.length - k) 0 [2,3,4,5,8,10,38,39,40] ?_ (Nat.zero_le _) ?_
 ·simp only [go_sem,↓reduceIte,Nat.reduceEqDiff,Nat.reduceLT,Nat.reduceLeDiff,Nat.reduceAdd,Nat.reduceSub,Nat.reduceMul,Nat.reduceBEq,Nat.reduceBNe,Nat.reducePow,Int.reduceToNat,Int.reduceLE,Int.reduceLT,Int.reduceMul,Int.reduceEq,Int.reducePow,Int.reduceAdd,Int.reduceSub,Int.reduceNeg,reduceCtorEq] <;> rfl
 intro k hk ih
 by_cases hlt : k < t.length
 ·have hlt' : ((k : Int) < (t.length : Int)) = True := eq_true (by omega)
  have hkw := cC (n := k) (by omega)
  have hg0 := eM hlt
  have hfl := cM t
  have hcl : (bn (c4 (-1) (t.take k))).length = k * 2 := by rw [cM,show (c4 (-1) (t.take k)).length = (t.take k).length from List.length_map ..,List.length_take];omega
  have hmem := hm _ (List.getElem_mem hlt)
  have ih' := ih (k + 1) (by omega) (by omega)
  rw [oF (-1) hlt,ig] at ih'
  clear ih hca hcb ht1 ht2 hsum hwy hwc hws hwn hm
  generalize t[k] = m at *
  obtain ⟨v,x⟩ := m
  obtain ⟨b1,b2,b3,b4⟩ := hmem
  simp only at b3 b4 hg0 ih'
  have hw : IntKind.i64.wrap (-1 * x) = -1 * x := bQ (by omega) (by omega)
  have hw2 : IntKind.i64.wrap (-x) = -1 * x := by rw [bQ (by omega) (by omega)];omega
  generalize -1 * x = z at *
  generalize c4 (-1) (t.take k) = T at *
  repeat' (first | (with_reducible refine hY _ ?_;clear hY Y) | ((with_reducible first | refine aX rfl (aR fun K' hK' => aa ?_) | refine hK' _ (ab fun Y hY => aa ?_) | refine ab fun Y hY => aa ?_ | refine ag tk0 cw (ab fun Y hY => aa ?_));(try clear hK' K');(try dsimp only [aop]);try simp only [go_sem,↓reduceIte,Nat.reduceEqDiff,Nat.reduceLT,Nat.reduceLeDiff,Nat.reduceAdd,Nat.reduceSub,Nat.reduceMul,Nat.reduceBEq,Nat.reduceBNe,Nat.reducePow,Int.reduceToNat,Int.reduceLE,Int.reduceLT,Int.reduceMul,Int.reduceEq,Int.reducePow,Int.reduceAdd,Int.reduceSub,Int.reduceNeg,reduceCtorEq,cw,Tryz.results80,hlt',hfl,hg0,hkw,hw,hw2,hcl]) | (with_reducible first | refine aI ?_ | refine aP ?_ | refine aS ?_ | refine bi fun K hK => ?_ | refine aD ?_ | refine ay ?_ | refine ah ?_ | refine av ?_) | (with_reducible refine hK _ ?_;clear hK K) | ((with_reducible refine ai ?_ ?_);(· decide)) | (with_reducible refine aV ?_ ?_;(· (try and_intros) <;> first | omega | assumption | (simp only [List.length_append,List.length_map,List.length_cons,List.length_nil] <;> omega))))
  refine bO [2,3,4,5,8,10,38,39,40] (by simp only [go_sem,↓reduceIte,Nat.reduceEqDiff,Nat.reduceLT,Nat.reduceLeDiff,Nat.reduceAdd,Nat.reduceSub,Nat.reduceMul,Nat.reduceBEq,Nat.reduceBNe,Nat.reducePow,Int.reduceToNat,Int.reduceLE,Int.reduceLT,Int.reduceMul,Int.reduceEq,Int.reducePow,Int.reduceAdd,Int.reduceSub,Int.reduceNeg,reduceCtorEq];exact rfl) ?_
  refine gF ih' ?_
  simp [bn,hw2]
 ·have hlt' : ((k : Int) < (t.length : Int)) = False := eq_false (by omega)
  obtain rfl : k = t.length := by omega
  rw [List.take_of_length_le (by omega)]
  clear ih hca hcb ht1 ht2
  repeat' (first | (with_reducible refine hY _ ?_;clear hY Y) | ((with_reducible first | refine aX rfl (aR fun K' hK' => aa ?_) | refine hK' _ (ab fun Y hY => aa ?_) | refine ab fun Y hY => aa ?_ | refine ag tk0 cw (ab fun Y hY => aa ?_));(try clear hK' K');(try dsimp only [aop]);try simp only [go_sem,↓reduceIte,Nat.reduceEqDiff,Nat.reduceLT,Nat.reduceLeDiff,Nat.reduceAdd,Nat.reduceSub,Nat.reduceMul,Nat.reduceBEq,Nat.reduceBNe,Nat.reducePow,Int.reduceToNat,Int.reduceLE,Int.reduceLT,Int.reduceMul,Int.reduceEq,Int.reducePow,Int.reduceAdd,Int.reduceSub,Int.reduceNeg,reduceCtorEq,cw,Tryz.results80,hlt']) | (with_reducible first | refine aI ?_ | refine aP ?_ | refine aS ?_ | refine bi fun K hK => ?_ | refine aC ?_ | refine aO ?_ | refine ax ?_ | refine ah ?_ | refine ar ?_ | refine au ?_) | (with_reducible refine hK _ ?_;clear hK K) | ((with_reducible refine ai ?_ ?_);(· decide)))
  refine fb ?_
  cases hcc : dc (d - c) with
  | true =>
   obtain rfl : q = (0,⟨d - c,c4 (-1) t⟩) := by rw [hq,hcc];rfl
   rw [iC] at hsum ⊢
   try simp only [hlen] at hsum
   try simp only [hlen]
   repeat' (first | (with_reducible refine hY _ ?_;clear hY Y) | ((with_reducible first | refine aX rfl (aR fun K' hK' => aa ?_) | refine hK' _ (ab fun Y hY => aa ?_) | refine ab fun Y hY => aa ?_ | refine ag tk0 cw (ab fun Y hY => aa ?_) | refine aa ?_ | refine aH ?_);(try clear hK' K');(try dsimp only [aop]);try simp only [go_sem,↓reduceIte,Nat.reduceEqDiff,Nat.reduceLT,Nat.reduceLeDiff,Nat.reduceAdd,Nat.reduceSub,Nat.reduceMul,Nat.reduceBEq,Nat.reduceBNe,Nat.reducePow,Int.reduceToNat,Int.reduceLE,Int.reduceLT,Int.reduceMul,Int.reduceEq,Int.reducePow,Int.reduceAdd,Int.reduceSub,Int.reduceNeg,reduceCtorEq,cw,Tryz.results80,hwy,hwc,hwn,hws]) | (with_reducible first | refine aI ?_ | refine aP ?_ | refine aS ?_ | refine bi fun K hK => ?_ | refine aO ?_ | refine ax ?_ | refine aL ?_ | refine ar ?_) | (with_reducible refine hK _ ?_;clear hK K) | ((with_reducible refine ai ?_ ?_);(· decide)) | ((with_reducible refine aB (fun hc => ?_) (fun hc => ?_)) <;> (try simp only [decide_eq_true_eq,decide_eq_false_iff_not,Bool.not_true,Bool.not_false,Bool.not_eq_true',Bool.not_eq_false'] at hc) <;> (try (exfalso;omega))) | (with_reducible refine aK (dd hsum ?_) ?_;(· simp [c6])))
  | false =>
   obtain rfl : q = (3,⟨0,[]⟩) := by rw [hq,hcc];rfl
   rw [jO] at hsum ⊢
   repeat' (first | (with_reducible refine hY _ ?_;clear hY Y) | ((with_reducible first | refine aX rfl (aR fun K' hK' => aa ?_) | refine hK' _ (ab fun Y hY => aa ?_) | refine ab fun Y hY => aa ?_ | refine ag tk0 cw (ab fun Y hY => aa ?_) | refine aa ?_ | refine aH ?_);(try clear hK' K');(try dsimp only [aop]);try simp only [go_sem,↓reduceIte,Nat.reduceEqDiff,Nat.reduceLT,Nat.reduceLeDiff,Nat.reduceAdd,Nat.reduceSub,Nat.reduceMul,Nat.reduceBEq,Nat.reduceBNe,Nat.reducePow,Int.reduceToNat,Int.reduceLE,Int.reduceLT,Int.reduceMul,Int.reduceEq,Int.reducePow,Int.reduceAdd,Int.reduceSub,Int.reduceNeg,reduceCtorEq,cw,Tryz.results80,hwy,hwc,hwn,hws]) | (with_reducible first | refine aI ?_ | refine aP ?_ | refine aS ?_ | refine bi fun K hK => ?_ | refine aO ?_ | refine ax ?_ | refine aL ?_ | refine ar ?_) | (with_reducible refine hK _ ?_;clear hK K) | ((with_reducible refine ai ?_ ?_);(· decide)) | ((with_reducible refine aB (fun hc => ?_) (fun hc => ?_)) <;> (try simp only [decide_eq_true_eq,decide_eq_false_iff_not,Bool.not_true,Bool.not_false,Bool.not_eq_true',Bool.not_eq_false'] at hc) <;> (try (exfalso;omega))) | (with_reducible refine aK (dd hsum ?_) ?_;(· simp [c6])))
end Go.Proofs.YtmpdocplcgbpkaaGreatDoor
