/- slices.SortStableFunc, lin.sum in K, of terms that stand in order already. lin.sum, lin.Add in K: of a sound form and a constant. lin.Add in K: of a sound form and a constant. -/
import Derived.Test.YtmpdocplcgbpkaaGreatDoorZ17
import Derived.Test.YtmpdocplcgbpkaaGreatDoorZ10
import Derived.Test.YtmpdocplcgbpkaaGreatDoorZ16
import Derived.Test.YtmpdocplcgbpkaaGreatDoorZ7
import Derived.Test.YtmpdocplcgbpkaaGreatDoorZ15
namespace Go.Proofs.YtmpdocplcgbpkaaGreatDoor
set_option linter.unusedSimpArgs false
set_option linter.unusedVariables false
open Go.RowKit
def aN : Nat→List Nat
 | 0=>[0,1,2]
 | 1=>[0,1,2,6]
 | 2=>[0,1,2,6,7,8]
 | 3=>[0,1,2,6,7,8]
 | 4=>[0,1,2,6,8]
 | 5=>[0,1,2,6,7,8]
 | 6=>[0,1,2,6,7]
 | 7=>[0,1,2,6]
 | 8=>[0,1,2,6]
 | 9=>[0,1,2,6,7,8]
 | 10=>[0,1,2,6,7,8]
 | 11=>[0,1,2,6,8]
 | 12=>[0,1,2,6,7,8]
 | 13=>[0,1,2,6,7]
 | 14=>[0,1,2,6,7,9]
 | 15=>[0,1,2,6,7,9]
 | 16=>[0,1,2,6]
 | _=>[]
set_option maxRecDepth 100000 in
set_option maxHeartbeats 16000000 in
theorem xg (t : List Tm) (ht : oH t) (hl : t.length≤1000000) : AFn Tryz.prog 127 [.sl (aJ t) t.length .none,inA (t.length : Int),jc] [] (.tup []) []:=by
 have hins:=fun a b hab hb=>Bn t a b hab hb ht hl
 have hsym:=fun a m b h1 h2 h3=>BC t ht hl (b - a) a m b rfl h1 h2 h3
 clear ht
 generalize hn : t.length = n at *
 refine aD [] Tryz.func127 rfl Tryz.ntmps127 (Nat.le_of_ble_eq_true rfl) (Nat.le_of_ble_eq_true rfl) fun w0 G0 B0 Pr hB0=>?_
 simp only [aO,aA,List.cons_append,List.nil_append]
 repeat' (first | (with_reducible refine hY _ ?_;clear hY Y) | ((with_reducible first | refine an rfl (ar fun K' hK'=>aa ?_) | refine hK' _ (ab fun Y hY=>aa ?_) | refine ae tk0 aN (ab fun Y hY=>aa ?_));(try clear hK' K');(try dsimp only [aop]);try simp only [go_sem,↓reduceIte,Nat.reduceEqDiff,Nat.reduceLT,Nat.reduceLeDiff,Nat.reduceAdd,Nat.reduceSub,Nat.reduceMul,Nat.reduceBEq,Nat.reduceBNe,Nat.reducePow,Int.reduceToNat,Int.reduceLE,Int.reduceLT,Int.reduceMul,Int.reduceEq,Int.reducePow,Int.reduceAdd,Int.reduceSub,Int.reduceNeg,reduceCtorEq,aN,Tryz.results127]) | (with_reducible first | refine af ?_ | refine ai ?_ | refine aj ?_ | refine ay fun K hK=>?_ | refine al ?_ | refine bG ?_) | (with_reducible refine hK _ ?_;clear hK K))
 refine bK (α:=Nat) (fun a=>[(0,.sl (aJ t) n .none),(1,inA (n : Int)),(2,jc),(6,inA 20),(7,inA (a : Int)),(8,inA ((a + 20 : Nat) : Int))]) (fun a=>a≤n) (fun a=>n - a) 0 [0,1,2,6,7,8] ?_ (Nat.zero_le _) ?_
 ·simp only [go_sem,↓reduceIte,Nat.reduceEqDiff,Nat.reduceLT,Nat.reduceLeDiff,Nat.reduceAdd,Nat.reduceSub,Nat.reduceMul,Nat.reduceBEq,Nat.reduceBNe,Nat.reducePow,Int.reduceToNat,Int.reduceLE,Int.reduceLT,Int.reduceMul,Int.reduceEq,Int.reducePow,Int.reduceAdd,Int.reduceSub,Int.reduceNeg,reduceCtorEq] <;> rfl
 intro a ha ih
 by_cases hle : a + 20≤n
 ·have hle' : (((a + 20 : Nat) : Int)≤(n : Int)) = True:=eq_true (by omega)
  have hwk : IntKind.i64.wrap (((a + 20 : Nat) : Int) + 20) = ((a + 20 + 20 : Nat) : Int):=by rw [aY (by omega) (by omega)];omega
  have hc:=hins a (a + 20) (by omega) hle
  have ih':=ih (a + 20) hle (by omega)
  clear ih hins hsym
  generalize a + 20 = b at *
  repeat' (first | (with_reducible refine hY _ ?_;clear hY Y) | ((with_reducible first | refine an rfl (ar fun K' hK'=>aa ?_) | refine hK' _ (ab fun Y hY=>aa ?_) | refine ab fun Y hY=>aa ?_ | refine ae tk0 aN (ab fun Y hY=>aa ?_) | refine aa ?_);(try clear hK' K');(try dsimp only [aop]);try simp only [go_sem,↓reduceIte,Nat.reduceEqDiff,Nat.reduceLT,Nat.reduceLeDiff,Nat.reduceAdd,Nat.reduceSub,Nat.reduceMul,Nat.reduceBEq,Nat.reduceBNe,Nat.reducePow,Int.reduceToNat,Int.reduceLE,Int.reduceLT,Int.reduceMul,Int.reduceEq,Int.reducePow,Int.reduceAdd,Int.reduceSub,Int.reduceNeg,reduceCtorEq,aN,Tryz.results127,hle',hwk]) | (with_reducible first | refine af ?_ | refine ai ?_ | refine aj ?_ | refine ay fun K hK=>?_ | refine ap ?_ | refine aU ?_ | refine al ?_ | refine av ?_) | (with_reducible refine hK _ ?_;clear hK K) | ((with_reducible refine ag ?_ ?_);(· decide)) | (with_reducible refine ah (hc) ?_))
  refine bi [0,1,2,6,7,8] (by simp only [go_sem,↓reduceIte,Nat.reduceEqDiff,Nat.reduceLT,Nat.reduceLeDiff,Nat.reduceAdd,Nat.reduceSub,Nat.reduceMul,Nat.reduceBEq,Nat.reduceBNe,Nat.reducePow,Int.reduceToNat,Int.reduceLE,Int.reduceLT,Int.reduceMul,Int.reduceEq,Int.reducePow,Int.reduceAdd,Int.reduceSub,Int.reduceNeg,reduceCtorEq];exact rfl) ?_
  exact ih'
 ·have hle' : (((a + 20 : Nat) : Int)≤(n : Int)) = False:=eq_false (by omega)
  have hc:=hins a n ha (Nat.le_refl _)
  clear ih
  repeat' (first | (with_reducible refine hY _ ?_;clear hY Y) | ((with_reducible first | refine an rfl (ar fun K' hK'=>aa ?_) | refine hK' _ (ab fun Y hY=>aa ?_) | refine ab fun Y hY=>aa ?_ | refine ae tk0 aN (ab fun Y hY=>aa ?_) | refine aa ?_);(try clear hK' K');(try dsimp only [aop]);try simp only [go_sem,↓reduceIte,Nat.reduceEqDiff,Nat.reduceLT,Nat.reduceLeDiff,Nat.reduceAdd,Nat.reduceSub,Nat.reduceMul,Nat.reduceBEq,Nat.reduceBNe,Nat.reducePow,Int.reduceToNat,Int.reduceLE,Int.reduceLT,Int.reduceMul,Int.reduceEq,Int.reducePow,Int.reduceAdd,Int.reduceSub,Int.reduceNeg,reduceCtorEq,aN,Tryz.results127,hle']) | (with_reducible first | refine af ?_ | refine ai ?_ | refine aj ?_ | refine ay fun K hK=>?_ | refine aq ?_ | refine bC ?_ | refine bg ?_ | refine al ?_ | refine bf ?_ | refine bG ?_) | (with_reducible refine hK _ ?_;clear hK K) | ((with_reducible refine ag ?_ ?_);(· decide)) | (with_reducible refine ah (hc) ?_))
  clear hc hle hle' ha
  refine bK (α:=Nat) (fun s=>[(0,.sl (aJ t) n .none),(1,inA (n : Int)),(2,jc),(6,inA (s : Int))]) (fun s=>20≤s) (fun s=>n - s) 20 [0,1,2,6] ?_ (Nat.le_refl _) ?_
  ·simp only [go_sem,↓reduceIte,Nat.reduceEqDiff,Nat.reduceLT,Nat.reduceLeDiff,Nat.reduceAdd,Nat.reduceSub,Nat.reduceMul,Nat.reduceBEq,Nat.reduceBNe,Nat.reducePow,Int.reduceToNat,Int.reduceLE,Int.reduceLT,Int.reduceMul,Int.reduceEq,Int.reducePow,Int.reduceAdd,Int.reduceSub,Int.reduceNeg,reduceCtorEq] <;> rfl
  intro s hs ih
  by_cases hlt : s < n
  ·have hlt' : ((s : Int) < (n : Int)) = True:=eq_true (by omega)
   have hw2 : IntKind.i64.wrap (2 * (s : Int)) = ((2 * s : Nat) : Int):=by rw [aY (by omega) (by omega)];omega
   have hw3 : IntKind.i64.wrap ((s : Int) * 2) = ((2 * s : Nat) : Int):=by rw [aY (by omega) (by omega)];omega
   have ih':=ih (2 * s) (by omega) (by omega)
   clear ih
   repeat' (first | (with_reducible refine hY _ ?_;clear hY Y) | ((with_reducible first | refine an rfl (ar fun K' hK'=>aa ?_) | refine hK' _ (ab fun Y hY=>aa ?_) | refine ab fun Y hY=>aa ?_ | refine ae tk0 aN (ab fun Y hY=>aa ?_));(try clear hK' K');(try dsimp only [aop]);try simp only [go_sem,↓reduceIte,Nat.reduceEqDiff,Nat.reduceLT,Nat.reduceLeDiff,Nat.reduceAdd,Nat.reduceSub,Nat.reduceMul,Nat.reduceBEq,Nat.reduceBNe,Nat.reducePow,Int.reduceToNat,Int.reduceLE,Int.reduceLT,Int.reduceMul,Int.reduceEq,Int.reducePow,Int.reduceAdd,Int.reduceSub,Int.reduceNeg,reduceCtorEq,aN,Tryz.results127,hlt',hw2]) | (with_reducible first | refine af ?_ | refine ai ?_ | refine aj ?_ | refine ay fun K hK=>?_ | refine ap ?_ | refine al ?_ | refine av ?_ | refine bG ?_) | (with_reducible refine hK _ ?_;clear hK K) | ((with_reducible refine ag ?_ ?_);(· decide)))
   refine bK (α:=Nat) (fun a=>[(0,.sl (aJ t) n .none),(1,inA (n : Int)),(2,jc),(6,inA (s : Int)),(7,inA (a : Int)),(8,inA ((a + 2 * s : Nat) : Int))]) (fun a=>a≤n) (fun a=>n - a) 0 [0,1,2,6,7,8] ?_ (Nat.zero_le _) ?_
   ·simp only [go_sem,↓reduceIte,Nat.reduceEqDiff,Nat.reduceLT,Nat.reduceLeDiff,Nat.reduceAdd,Nat.reduceSub,Nat.reduceMul,Nat.reduceBEq,Nat.reduceBNe,Nat.reducePow,Int.reduceToNat,Int.reduceLE,Int.reduceLT,Int.reduceMul,Int.reduceEq,Int.reducePow,Int.reduceAdd,Int.reduceSub,Int.reduceNeg,reduceCtorEq,Nat.zero_add] <;> rfl
   intro a ha ihi
   by_cases hle : a + 2 * s≤n
   ·have hle' : (((a + 2 * s : Nat) : Int)≤(n : Int)) = True:=eq_true (by omega)
    have hwa:=eK (a:=a) (b:=s) (by omega)
    have hwk:=eK (a:=a + 2 * s) (b:=2 * s) (by omega)
    have hc:=hsym a (a + s) (a + 2 * s) (by omega) (by omega) hle
    have ihi':=ihi (a + 2 * s) hle (by omega)
    clear ihi hins hsym ih'
    repeat' (first | (with_reducible refine hY _ ?_;clear hY Y) | ((with_reducible first | refine an rfl (ar fun K' hK'=>aa ?_) | refine hK' _ (ab fun Y hY=>aa ?_) | refine ab fun Y hY=>aa ?_ | refine ae tk0 aN (ab fun Y hY=>aa ?_) | refine aa ?_);(try clear hK' K');(try dsimp only [aop]);try simp only [go_sem,↓reduceIte,Nat.reduceEqDiff,Nat.reduceLT,Nat.reduceLeDiff,Nat.reduceAdd,Nat.reduceSub,Nat.reduceMul,Nat.reduceBEq,Nat.reduceBNe,Nat.reducePow,Int.reduceToNat,Int.reduceLE,Int.reduceLT,Int.reduceMul,Int.reduceEq,Int.reducePow,Int.reduceAdd,Int.reduceSub,Int.reduceNeg,reduceCtorEq,aN,Tryz.results127,hle',hwa,hw2,hwk]) | (with_reducible first | refine af ?_ | refine ai ?_ | refine aj ?_ | refine ay fun K hK=>?_ | refine ap ?_ | refine aU ?_ | refine al ?_ | refine av ?_) | (with_reducible refine hK _ ?_;clear hK K) | ((with_reducible refine ag ?_ ?_);(· decide)) | (with_reducible refine ah (hc) ?_))
    refine bi [0,1,2,6,7,8] (by simp only [go_sem,↓reduceIte,Nat.reduceEqDiff,Nat.reduceLT,Nat.reduceLeDiff,Nat.reduceAdd,Nat.reduceSub,Nat.reduceMul,Nat.reduceBEq,Nat.reduceBNe,Nat.reducePow,Int.reduceToNat,Int.reduceLE,Int.reduceLT,Int.reduceMul,Int.reduceEq,Int.reducePow,Int.reduceAdd,Int.reduceSub,Int.reduceNeg,reduceCtorEq];exact rfl) ?_
    exact ihi'
   ·have hle' : (((a + 2 * s : Nat) : Int)≤(n : Int)) = False:=eq_false (by omega)
    have hwa:=eK (a:=a) (b:=s) (by omega)
    clear ihi
    by_cases hm : a + s < n
    ·have hm' : (((a + s : Nat) : Int) < (n : Int)) = True:=eq_true (by omega)
     have hc:=hsym a (a + s) n (by omega) hm (Nat.le_refl _)
     clear hsym
     repeat' (first | (with_reducible refine hY _ ?_;clear hY Y) | ((with_reducible first | refine an rfl (ar fun K' hK'=>aa ?_) | refine hK' _ (ab fun Y hY=>aa ?_) | refine ab fun Y hY=>aa ?_ | refine ae tk0 aN (ab fun Y hY=>aa ?_) | refine aa ?_);(try clear hK' K');(try dsimp only [aop]);try simp only [go_sem,↓reduceIte,Nat.reduceEqDiff,Nat.reduceLT,Nat.reduceLeDiff,Nat.reduceAdd,Nat.reduceSub,Nat.reduceMul,Nat.reduceBEq,Nat.reduceBNe,Nat.reducePow,Int.reduceToNat,Int.reduceLE,Int.reduceLT,Int.reduceMul,Int.reduceEq,Int.reducePow,Int.reduceAdd,Int.reduceSub,Int.reduceNeg,reduceCtorEq,aN,Tryz.results127,hle',hwa,hm',hw3]) | (with_reducible first | refine af ?_ | refine ai ?_ | refine aj ?_ | refine ay fun K hK=>?_ | refine ap ?_ | refine aq ?_ | refine bC ?_ | refine aU ?_ | refine bg ?_ | refine bf ?_) | (with_reducible refine hK _ ?_;clear hK K) | ((with_reducible refine ag ?_ ?_);(· decide)) | (with_reducible refine ah (hc) ?_))
     refine bi [0,1,2,6] (by simp only [go_sem,↓reduceIte,Nat.reduceEqDiff,Nat.reduceLT,Nat.reduceLeDiff,Nat.reduceAdd,Nat.reduceSub,Nat.reduceMul,Nat.reduceBEq,Nat.reduceBNe,Nat.reducePow,Int.reduceToNat,Int.reduceLE,Int.reduceLT,Int.reduceMul,Int.reduceEq,Int.reducePow,Int.reduceAdd,Int.reduceSub,Int.reduceNeg,reduceCtorEq];exact rfl) ?_
     exact ih'
    ·have hm' : (((a + s : Nat) : Int) < (n : Int)) = False:=eq_false (by omega)
     clear hsym
     repeat' (first | (with_reducible refine hY _ ?_;clear hY Y) | ((with_reducible first | refine an rfl (ar fun K' hK'=>aa ?_) | refine hK' _ (ab fun Y hY=>aa ?_) | refine ab fun Y hY=>aa ?_ | refine ae tk0 aN (ab fun Y hY=>aa ?_));(try clear hK' K');(try dsimp only [aop]);try simp only [go_sem,↓reduceIte,Nat.reduceEqDiff,Nat.reduceLT,Nat.reduceLeDiff,Nat.reduceAdd,Nat.reduceSub,Nat.reduceMul,Nat.reduceBEq,Nat.reduceBNe,Nat.reducePow,Int.reduceToNat,Int.reduceLE,Int.reduceLT,Int.reduceMul,Int.reduceEq,Int.reducePow,Int.reduceAdd,Int.reduceSub,Int.reduceNeg,reduceCtorEq,aN,Tryz.results127,hle',hwa,hm',hw3]) | (with_reducible first | refine af ?_ | refine ai ?_ | refine aj ?_ | refine ay fun K hK=>?_ | refine aq ?_ | refine bC ?_ | refine aU ?_ | refine bg ?_ | refine av ?_ | refine bf ?_) | (with_reducible refine hK _ ?_;clear hK K) | ((with_reducible refine ag ?_ ?_);(· decide)))
     refine bi [0,1,2,6] (by simp only [go_sem,↓reduceIte,Nat.reduceEqDiff,Nat.reduceLT,Nat.reduceLeDiff,Nat.reduceAdd,Nat.reduceSub,Nat.reduceMul,Nat.reduceBEq,Nat.reduceBNe,Nat.reducePow,Int.reduceToNat,Int.reduceLE,Int.reduceLT,Int.reduceMul,Int.reduceEq,Int.reducePow,Int.reduceAdd,Int.reduceSub,Int.reduceNeg,reduceCtorEq];exact rfl) ?_
     exact ih'
  ·have hlt' : ((s : Int) < (n : Int)) = False:=eq_false (by omega)
   clear ih hsym
   repeat' (first | (with_reducible refine hY _ ?_;clear hY Y) | ((with_reducible first | refine an rfl (ar fun K' hK'=>aa ?_) | refine hK' _ (ab fun Y hY=>aa ?_) | refine ab fun Y hY=>aa ?_ | refine ae tk0 aN (ab fun Y hY=>aa ?_) | refine aa ?_ | refine iS ?_);(try clear hK' K');(try dsimp only [aop]);try simp only [go_sem,↓reduceIte,Nat.reduceEqDiff,Nat.reduceLT,Nat.reduceLeDiff,Nat.reduceAdd,Nat.reduceSub,Nat.reduceMul,Nat.reduceBEq,Nat.reduceBNe,Nat.reducePow,Int.reduceToNat,Int.reduceLE,Int.reduceLT,Int.reduceMul,Int.reduceEq,Int.reducePow,Int.reduceAdd,Int.reduceSub,Int.reduceNeg,reduceCtorEq,aN,Tryz.results127,hlt']) | (with_reducible first | refine af ?_ | refine ai ?_ | refine aj ?_ | refine ay fun K hK=>?_ | refine aq ?_ | refine bC ?_ | refine bg ?_ | refine bf ?_) | (with_reducible refine hK _ ?_;clear hK K) | ((with_reducible refine ag ?_ ?_);(· decide)))
def cE : Nat→List Nat
 | 0=>[0,1]
 | _=>[]
set_option maxRecDepth 100000 in
theorem xf (t : List Tm) (ht : oH t) (hl : t.length≤1000000) : AFn Tryz.prog 121 [.sl (aJ t) t.length .none,jc] [] (.tup []) []:=by
 have h1:=xg t ht hl
 have h2:=lr (n:=t.length) (by omega)
 refine aD [] Tryz.func121 rfl Tryz.ntmps121 (Nat.le_of_ble_eq_true rfl) (Nat.le_of_ble_eq_true rfl) fun w0 G0 B0 Pr hB0=>?_
 simp only [aO,aA,List.cons_append,List.nil_append]
 repeat' (first | (with_reducible refine hY _ ?_;clear hY Y) | ((with_reducible first | refine an rfl (ar fun K' hK'=>aa ?_) | refine hK' _ (ab fun Y hY=>aa ?_) | refine ae tk0 cE (ab fun Y hY=>aa ?_) | refine aa ?_ | refine iS ?_);(try clear hK' K');(try dsimp only [aop]);try simp only [go_sem,↓reduceIte,Nat.reduceEqDiff,Nat.reduceLT,Nat.reduceLeDiff,Nat.reduceAdd,Nat.reduceSub,Nat.reduceMul,Nat.reduceBEq,Nat.reduceBNe,Nat.reducePow,Int.reduceToNat,Int.reduceLE,Int.reduceLT,Int.reduceMul,Int.reduceEq,Int.reducePow,Int.reduceAdd,Int.reduceSub,Int.reduceNeg,reduceCtorEq,cE,Tryz.results121]) | (with_reducible first | refine af ?_ | refine ay fun K hK=>?_) | (with_reducible refine hK _ ?_;clear hK K) | (with_reducible refine ah (h1) ?_))
def aW : Nat→List Nat
 | 0=>[0,1]
 | 1=>[0,1]
 | 2=>[0,1,7,8]
 | 3=>[0,1,7,8]
 | 4=>[0,1,5,7,8]
 | 5=>[5]
 | 6=>[0,1,7,8]
 | 7=>[]
 | _=>[]
def cJ : Nat→List Nat
 | 0=>[0,1]
 | 1=>[0,1]
 | _=>[]
set_option maxRecDepth 100000 in
set_option maxHeartbeats 8000000 in
theorem AB (l : List Tm) (F : Nat) (p : Tm→Bool) (hF : aM Tryz.prog F = true) (hl : Lg l) (h : ∀ y ∈ l,AFn Tryz.prog F [.agg (tmA y)] [] (.c (.bool (p y))) []) :
  AFn Tryz.prog 128 [.sl (aJ l) l.length .none,.fn (.func F) [] []] [] (inA (fiP p l)) []:=by
 unfold Lg at hl
 refine aD [] Tryz.func128 rfl Tryz.ntmps128 (Nat.le_of_ble_eq_true rfl) (Nat.le_of_ble_eq_true rfl) fun w0 G0 B0 Pr hB0=>?_
 simp only [aO,aA,List.cons_append,List.nil_append]
 repeat' (first | (with_reducible refine hY _ ?_;clear hY Y) | ((with_reducible first | refine an rfl (ar fun K' hK'=>aa ?_) | refine hK' _ (ab fun Y hY=>aa ?_) | refine ae tk0 aW (ab fun Y hY=>aa ?_));(try clear hK' K');(try dsimp only [aop]);try simp only [go_sem,↓reduceIte,Nat.reduceEqDiff,Nat.reduceLT,Nat.reduceLeDiff,Nat.reduceAdd,Nat.reduceSub,Nat.reduceMul,Nat.reduceBEq,Nat.reduceBNe,Nat.reducePow,Int.reduceToNat,Int.reduceLE,Int.reduceLT,Int.reduceMul,Int.reduceEq,Int.reducePow,Int.reduceAdd,Int.reduceSub,Int.reduceNeg,reduceCtorEq,aW,Tryz.results128]) | (with_reducible first | refine af ?_ | refine ai ?_ | refine aj ?_ | refine ay fun K hK=>?_ | refine al ?_ | refine bG ?_) | (with_reducible refine hK _ ?_;clear hK K))
 refine bK (α:=Nat) (fun k=>[(0,.sl (aJ l) l.length .none),(1,.fn (.func F) [] []),(7,inA (l.length : Int)),(8,inA (k : Int))])
  (fun k=>k≤l.length∧∀ j (hj : j < l.length),j < k→p l[j] = false) (fun k=>l.length - k) 0 [0,1,7,8] ?_ ⟨Nat.zero_le _,fun j _ hj=>absurd hj (Nat.not_lt_zero _)⟩ ?_
 ·simp only [go_sem,↓reduceIte,Nat.reduceEqDiff,Nat.reduceLT,Nat.reduceLeDiff,Nat.reduceAdd,Nat.reduceSub,Nat.reduceMul,Nat.reduceBEq,Nat.reduceBNe,Nat.reducePow,Int.reduceToNat,Int.reduceLE,Int.reduceLT,Int.reduceMul,Int.reduceEq,Int.reducePow,Int.reduceAdd,Int.reduceSub,Int.reduceNeg,reduceCtorEq] <;> rfl
 rintro k ⟨hk,hall⟩ ih
 by_cases hlt : k < l.length
 ·have hlt' : ((k : Int) < (l.length : Int)) = True:=eq_true (by omega)
  have hkw:=cf (n:=k) (by omega)
  have h1:=h l[k] (List.getElem_mem hlt)
  have hg0:=ez hlt
  have hfl:=cl l
  have hfi:=lz (p:=p) hlt hall
  have hnx : p l[k] = false→∀ j (hj : j < l.length),j < k + 1→p l[j] = false:=fun e j hj hjk=>by
   by_cases hj2 : j < k
   ·exact hall j hj hj2
   ·have : j = k:=by omega
    subst this;exact e
  generalize l[k] = t at *
  generalize hp : p t = b at *
  cases b with
  | true =>
   rw [hfi rfl]
   clear ih hfi hnx hall h
   repeat' (first | (with_reducible refine hY _ ?_;clear hY Y) | ((with_reducible first | refine an rfl (ar fun K' hK'=>aa ?_) | refine hK' _ (ab fun Y hY=>aa ?_) | refine ab fun Y hY=>aa ?_ | refine ae tk0 aW (ab fun Y hY=>aa ?_) | refine aa ?_ | refine ao ?_);(try clear hK' K');(try dsimp only [aop]);try simp only [go_sem,↓reduceIte,Nat.reduceEqDiff,Nat.reduceLT,Nat.reduceLeDiff,Nat.reduceAdd,Nat.reduceSub,Nat.reduceMul,Nat.reduceBEq,Nat.reduceBNe,Nat.reducePow,Int.reduceToNat,Int.reduceLE,Int.reduceLT,Int.reduceMul,Int.reduceEq,Int.reducePow,Int.reduceAdd,Int.reduceSub,Int.reduceNeg,reduceCtorEq,aW,Tryz.results128,hlt',hfl,hg0,hkw,hF]) | (with_reducible first | refine af ?_ | refine ai ?_ | refine aj ?_ | refine ay fun K hK=>?_ | refine ap ?_ | refine aS ?_ | refine bb ?_ | refine al ?_ | refine av ?_ | refine au ?_) | (with_reducible refine hK _ ?_;clear hK K) | ((with_reducible refine ag ?_ ?_);(· decide)) | (with_reducible refine bp ?_ ?_;(· (try and_intros) <;> first | omega | assumption | (simp only [List.length_append,List.length_map,List.length_cons,List.length_nil] <;> omega))) | (with_reducible refine ah (h1) ?_))
  | false =>
   clear hfi
   repeat' (first | (with_reducible refine hY _ ?_;clear hY Y) | ((with_reducible first | refine an rfl (ar fun K' hK'=>aa ?_) | refine hK' _ (ab fun Y hY=>aa ?_) | refine ab fun Y hY=>aa ?_ | refine ae tk0 aW (ab fun Y hY=>aa ?_) | refine aa ?_);(try clear hK' K');(try dsimp only [aop]);try simp only [go_sem,↓reduceIte,Nat.reduceEqDiff,Nat.reduceLT,Nat.reduceLeDiff,Nat.reduceAdd,Nat.reduceSub,Nat.reduceMul,Nat.reduceBEq,Nat.reduceBNe,Nat.reducePow,Int.reduceToNat,Int.reduceLE,Int.reduceLT,Int.reduceMul,Int.reduceEq,Int.reducePow,Int.reduceAdd,Int.reduceSub,Int.reduceNeg,reduceCtorEq,aW,Tryz.results128,hlt',hfl,hg0,hkw,hF]) | (with_reducible first | refine af ?_ | refine ai ?_ | refine aj ?_ | refine ay fun K hK=>?_ | refine ap ?_ | refine aq ?_ | refine aU ?_ | refine al ?_ | refine av ?_) | (with_reducible refine hK _ ?_;clear hK K) | ((with_reducible refine ag ?_ ?_);(· decide)) | (with_reducible refine bp ?_ ?_;(· (try and_intros) <;> first | omega | assumption | (simp only [List.length_append,List.length_map,List.length_cons,List.length_nil] <;> omega))) | (with_reducible refine ah (h1) ?_))
   refine bi [0,1,7,8] (by simp only [go_sem,↓reduceIte,Nat.reduceEqDiff,Nat.reduceLT,Nat.reduceLeDiff,Nat.reduceAdd,Nat.reduceSub,Nat.reduceMul,Nat.reduceBEq,Nat.reduceBNe,Nat.reducePow,Int.reduceToNat,Int.reduceLE,Int.reduceLT,Int.reduceMul,Int.reduceEq,Int.reducePow,Int.reduceAdd,Int.reduceSub,Int.reduceNeg,reduceCtorEq];exact rfl) ?_
   exact ih (k + 1) ⟨by omega,hnx rfl⟩ (by omega)
 ·have hlt' : ((k : Int) < (l.length : Int)) = False:=eq_false (by omega)
  rw [lC fun j hj=>hall j hj (by omega)]
  clear ih h hall
  repeat' (first | (with_reducible refine hY _ ?_;clear hY Y) | ((with_reducible first | refine an rfl (ar fun K' hK'=>aa ?_) | refine hK' _ (ab fun Y hY=>aa ?_) | refine ab fun Y hY=>aa ?_ | refine ae tk0 aW (ab fun Y hY=>aa ?_) | refine aa ?_ | refine ao ?_);(try clear hK' K');(try dsimp only [aop]);try simp only [go_sem,↓reduceIte,Nat.reduceEqDiff,Nat.reduceLT,Nat.reduceLeDiff,Nat.reduceAdd,Nat.reduceSub,Nat.reduceMul,Nat.reduceBEq,Nat.reduceBNe,Nat.reducePow,Int.reduceToNat,Int.reduceLE,Int.reduceLT,Int.reduceMul,Int.reduceEq,Int.reducePow,Int.reduceAdd,Int.reduceSub,Int.reduceNeg,reduceCtorEq,aW,Tryz.results128,hlt']) | (with_reducible first | refine af ?_ | refine ai ?_ | refine aj ?_ | refine ay fun K hK=>?_ | refine aq ?_ | refine bC ?_ | refine bg ?_ | refine au ?_ | refine bf ?_) | (with_reducible refine hK _ ?_;clear hK K) | ((with_reducible refine ag ?_ ?_);(· decide)))
set_option maxRecDepth 100000 in
theorem Aw (l : List Tm) (F : Nat) (p : Tm→Bool) (hF : aM Tryz.prog F = true) (hl : Lg l) (h : ∀ y ∈ l,AFn Tryz.prog F [.agg (tmA y)] [] (.c (.bool (p y))) []) :
  AFn Tryz.prog 123 [.sl (aJ l) l.length .none,.fn (.func F) [] []] [] (.c (.bool (l.any p))) []:=by
 have h1:=AB l F p hF hl h
 have h2 : decide (0≤fiP p l) = l.any p:=j3 p l
 refine aD [] Tryz.func123 rfl Tryz.ntmps123 (Nat.le_of_ble_eq_true rfl) (Nat.le_of_ble_eq_true rfl) fun w0 G0 B0 Pr hB0=>?_
 simp only [aO,aA,List.cons_append,List.nil_append]
 repeat' (first | (with_reducible refine hY _ ?_;clear hY Y) | ((with_reducible first | refine an rfl (ar fun K' hK'=>aa ?_) | refine hK' _ (ab fun Y hY=>aa ?_) | refine ae tk0 cJ (ab fun Y hY=>aa ?_) | refine aa ?_ | refine ao ?_);(try clear hK' K');(try dsimp only [aop]);try simp only [go_sem,↓reduceIte,Nat.reduceEqDiff,Nat.reduceLT,Nat.reduceLeDiff,Nat.reduceAdd,Nat.reduceSub,Nat.reduceMul,Nat.reduceBEq,Nat.reduceBNe,Nat.reducePow,Int.reduceToNat,Int.reduceLE,Int.reduceLT,Int.reduceMul,Int.reduceEq,Int.reducePow,Int.reduceAdd,Int.reduceSub,Int.reduceNeg,reduceCtorEq,cJ,Tryz.results123,h2]) | (with_reducible first | refine af ?_ | refine ai ?_ | refine aj ?_ | refine ay fun K hK=>?_ | refine au ?_) | (with_reducible refine hK _ ?_;clear hK K) | (with_reducible refine ah (h1) ?_))
def ga : Nat→List Nat
 | 0=>[0]
 | 1=>[1]
 | _=>[]
theorem zA : aM Tryz.prog 124 = true:=by kernel_rfl
set_option maxRecDepth 100000 in
theorem Bb (m : Tm) : AFn Tryz.prog 124 [.agg (tmA m)] [] (.c (.bool (!cX m.2))) []:=by
 have h:=oU m.2
 obtain ⟨v,x⟩:=m
 simp only at h ⊢
 refine aD [] Tryz.func124 rfl Tryz.ntmps124 (Nat.le_of_ble_eq_true rfl) (Nat.le_of_ble_eq_true rfl) fun w0 G0 B0 Pr hB0=>?_
 simp only [aO,aA,List.cons_append,List.nil_append]
 repeat' (first | (with_reducible refine hY _ ?_;clear hY Y) | ((with_reducible first | refine an rfl (ar fun K' hK'=>aa ?_) | refine hK' _ (ab fun Y hY=>aa ?_) | refine ae tk0 ga (ab fun Y hY=>aa ?_) | refine aa ?_ | refine ao ?_);(try clear hK' K');(try dsimp only [aop]);try simp only [go_sem,↓reduceIte,Nat.reduceEqDiff,Nat.reduceLT,Nat.reduceLeDiff,Nat.reduceAdd,Nat.reduceSub,Nat.reduceMul,Nat.reduceBEq,Nat.reduceBNe,Nat.reducePow,Int.reduceToNat,Int.reduceLE,Int.reduceLT,Int.reduceMul,Int.reduceEq,Int.reducePow,Int.reduceAdd,Int.reduceSub,Int.reduceNeg,reduceCtorEq,ga,Tryz.results124]) | (with_reducible first | refine af ?_ | refine ai ?_ | refine aj ?_ | refine ay fun K hK=>?_ | refine au ?_) | (with_reducible refine hK _ ?_;clear hK K) | (with_reducible refine ah (h) ?_))
end Go.Proofs.YtmpdocplcgbpkaaGreatDoor
namespace Go.Proofs.YtmpdocplcgbpkaaGreatDoor
set_option linter.unusedSimpArgs false
set_option linter.unusedVariables false
open Go.RowKit
def bR : Nat→List Nat
 | 0=>[0,1]
 | 1=>[0,1,4]
 | 2=>[0,1,4]
 | 3=>[0,1,4]
 | 4=>[0,1,4,6]
 | 5=>[0,1,4,6,7]
 | 6=>[0,1,4,6,7]
 | 7=>[0,1,4,6,7,8]
 | 8=>[0,1,4,6,7,8]
 | 9=>[0,1,4,6,7,8]
 | 10=>[0,1,4,6,7,8]
 | 11=>[0,1,4,6,7,8]
 | 12=>[0,1,4,6,7,8]
 | 13=>[0,4,6]
 | 14=>[4]
 | 15=>[4,6]
 | 16=>[4]
 | 17=>[4,6]
 | _=>[]
set_option maxRecDepth 100000 in
set_option maxHeartbeats 16000000 in
theorem By (c : Int) (t : List Tm) (ht : oH t) (hk : ∀ m ∈ t,m.2 ≠ 0∧cX m.2 = true) (hl : t.length≤64) (q : Nat × Ln) (hq : q = if cX c then (0,⟨c,t⟩) else (3,⟨0,[]⟩)) :
  AFn Tryz.prog 113 [inA c,.sl (aJ t) t.length .none] [] (ll q) []:=by
 have hcl:=kq t .none (.inl rfl) (by omega)
 have hso:=xf t ht (by omega)
 have hcf:=oU c
 have hhas:=Aw t 124 (fun m=>!cX m.2) zA (by unfold Lg;omega) fun y _=>Bb y
 rw [show t.any (fun m=>!cX m.2) = false by rw [List.any_eq_false];intro x hx;rw [(hk x hx).2];simp] at hhas
 have h64 : ((64 : Int) < (t.length : Int)) = False:=eq_false (by omega)
 have hfl:=cl t
 refine aD [] Tryz.func113 rfl Tryz.ntmps113 (Nat.le_of_ble_eq_true rfl) (Nat.le_of_ble_eq_true rfl) fun w0 G0 B0 Pr hB0=>?_
 simp only [aO,aA,List.cons_append,List.nil_append]
 repeat' (first | (with_reducible refine hY _ ?_;clear hY Y) | ((with_reducible first | refine an rfl (ar fun K' hK'=>aa ?_) | refine hK' _ (ab fun Y hY=>aa ?_) | refine ae tk0 bR (ab fun Y hY=>aa ?_) | refine aa ?_);(try clear hK' K');(try dsimp only [aop]);try simp only [go_sem,↓reduceIte,Nat.reduceEqDiff,Nat.reduceLT,Nat.reduceLeDiff,Nat.reduceAdd,Nat.reduceSub,Nat.reduceMul,Nat.reduceBEq,Nat.reduceBNe,Nat.reducePow,Int.reduceToNat,Int.reduceLE,Int.reduceLT,Int.reduceMul,Int.reduceEq,Int.reducePow,Int.reduceAdd,Int.reduceSub,Int.reduceNeg,reduceCtorEq,bR,Tryz.results113]) | (with_reducible first | refine af ?_ | refine ai ?_ | refine aj ?_ | refine ay fun K hK=>?_ | refine al ?_ | refine bG ?_) | (with_reducible refine hK _ ?_;clear hK K) | (with_reducible refine ah (hcl) ?_) | (with_reducible refine ah (hso) ?_))
 refine eu (dm (b:=10057) (k0:=10006) (i:=1) 94 (by decide) (by decide) (by decide) rfl rfl rfl) ?_
 refine bK (α:=Nat) (fun k=>[(0,inA c),(1,.sl (aJ t) t.length .none),(4,.loc 10004 0),(6,.loc 10006 0),(7,inA (k : Int)),(10004,.bc [inA 0,.sl [] 0 .full] 24),(10006,.bc [inA c,.sl (aJ (t.take k)) k (.tok 10057)] 24),(10057,.bt k 94)])
  (fun k=>k≤t.length) (fun k=>t.length - k) 0 [0,1,4,6,7] ?_ (Nat.zero_le _) ?_
 ·simp only [go_sem,↓reduceIte,Nat.reduceEqDiff,Nat.reduceLT,Nat.reduceLeDiff,Nat.reduceAdd,Nat.reduceSub,Nat.reduceMul,Nat.reduceBEq,Nat.reduceBNe,Nat.reducePow,Int.reduceToNat,Int.reduceLE,Int.reduceLT,Int.reduceMul,Int.reduceEq,Int.reducePow,Int.reduceAdd,Int.reduceSub,Int.reduceNeg,reduceCtorEq] <;> rfl
 intro k hkl ih
 by_cases hlt : k < t.length
 ·have hlt' : ((k : Int) < (t.length : Int)) = True:=eq_true (by omega)
  have hkw:=cf (n:=k) (by omega)
  have hg0:=ez hlt
  have htk : (aJ (t.take k)).length = k * 2:=by rw [cl,List.length_take];omega
  have hne:=(hk _ (List.getElem_mem hlt)).1
  have ih':=ih (k + 1) (by omega) (by omega)
  rw [show t.take (k + 1) = t.take k ++ [t[k]] from List.take_succ_eq_append_getElem hlt,iC] at ih'
  clear ih hhas hcf hso hcl
  by_cases hn : k + 1 < t.length
  ·have hn' : (((k + 1 : Nat) : Int) < (t.length : Int)) = True:=eq_true (by omega)
   have hg1:=tb hn
   have hd : (t[k + 1].1 = t[k].1) = False:=eq_false (by have:=ht.1 k (k + 1) hlt hn (by omega);omega)
   clear ht hk
   generalize t[k + 1].1 = w at *
   generalize t[k] = m at *
   obtain ⟨v,x⟩:=m
   simp only at hne hg0 ih' hd
   have hx0 : (x = 0) = False:=eq_false hne
   generalize aJ (t.take k) = T at *
   repeat' (first | (with_reducible refine hY _ ?_;clear hY Y) | ((with_reducible first | refine an rfl (ar fun K' hK'=>aa ?_) | refine hK' _ (ab fun Y hY=>aa ?_) | refine ab fun Y hY=>aa ?_ | refine ae tk0 bR (ab fun Y hY=>aa ?_));(try clear hK' K');(try dsimp only [aop]);try simp only [go_sem,↓reduceIte,Nat.reduceEqDiff,Nat.reduceLT,Nat.reduceLeDiff,Nat.reduceAdd,Nat.reduceSub,Nat.reduceMul,Nat.reduceBEq,Nat.reduceBNe,Nat.reducePow,Int.reduceToNat,Int.reduceLE,Int.reduceLT,Int.reduceMul,Int.reduceEq,Int.reducePow,Int.reduceAdd,Int.reduceSub,Int.reduceNeg,reduceCtorEq,bR,Tryz.results113,hlt',hg0,hkw,hfl,hx0,htk]) | (with_reducible first | refine af ?_ | refine ai ?_ | refine aj ?_ | refine ay fun K hK=>?_ | refine ap ?_ | refine al ?_ | refine av ?_ | refine bG ?_) | (with_reducible refine hK _ ?_;clear hK K) | ((with_reducible refine ag ?_ ?_);(· decide)) | (with_reducible refine bp ?_ ?_;(· (try and_intros) <;> first | omega | assumption | (simp only [List.length_append,List.length_map,List.length_cons,List.length_nil] <;> omega))))
   refine fm ?_
   repeat' (first | (with_reducible refine hY _ ?_;clear hY Y) | ((with_reducible first | refine an rfl (ar fun K' hK'=>aa ?_) | refine hK' _ (ab fun Y hY=>aa ?_) | refine ab fun Y hY=>aa ?_ | refine ae tk0 bR (ab fun Y hY=>aa ?_) | refine cV rfl (cT fun K' hK'=>aa ?_) | refine hK' _ _ (ab fun Y hY=>aa ?_) | refine eU rfl (ab fun Y hY=>aa ?_) | refine cT fun K' hK'=>aa ?_);(try clear hK' K');(try dsimp only [aop]);try simp only [go_sem,↓reduceIte,Nat.reduceEqDiff,Nat.reduceLT,Nat.reduceLeDiff,Nat.reduceAdd,Nat.reduceSub,Nat.reduceMul,Nat.reduceBEq,Nat.reduceBNe,Nat.reducePow,Int.reduceToNat,Int.reduceLE,Int.reduceLT,Int.reduceMul,Int.reduceEq,Int.reducePow,Int.reduceAdd,Int.reduceSub,Int.reduceNeg,reduceCtorEq,bR,Tryz.results113,hn',hg1,hd,hfl,hx0,htk]) | (with_reducible first | refine af ?_ | refine aL ?_ | refine ai ?_ | refine aj ?_ | refine ay fun K hK=>?_ | refine ap ?_ | refine aq ?_ | refine bC ?_ | refine aU ?_ | refine bg ?_ | refine bf ?_ | refine ch ?_ | refine eN fun K hK=>?_) | (with_reducible refine hK _ ?_;clear hK K) | (with_reducible refine hK _ _ ?_ ?_;(· kernel_rfl);clear hK K) | ((with_reducible first | refine aG ?_ ?_ | refine ag ?_ ?_);(· decide)) | (with_reducible refine cg tk0 bR ?_ ?_;(· kernel_rfl)) | (with_reducible refine bp ?_ ?_;(· (try and_intros) <;> first | omega | assumption | (simp only [List.length_append,List.length_map,List.length_cons,List.length_nil] <;> omega))))
   refine bi [0,1,4,6,7] (by simp only [go_sem,↓reduceIte,Nat.reduceEqDiff,Nat.reduceLT,Nat.reduceLeDiff,Nat.reduceAdd,Nat.reduceSub,Nat.reduceMul,Nat.reduceBEq,Nat.reduceBNe,Nat.reducePow,Int.reduceToNat,Int.reduceLE,Int.reduceLT,Int.reduceMul,Int.reduceEq,Int.reducePow,Int.reduceAdd,Int.reduceSub,Int.reduceNeg,reduceCtorEq];exact rfl) ?_
   refine gY ih' ?_
   simp [aJ]
  ·have hn' : (((k + 1 : Nat) : Int) < (t.length : Int)) = False:=eq_false (by omega)
   clear ht hk
   generalize t[k] = m at *
   obtain ⟨v,x⟩:=m
   simp only at hne hg0 ih'
   have hx0 : (x = 0) = False:=eq_false hne
   generalize aJ (t.take k) = T at *
   repeat' (first | (with_reducible refine hY _ ?_;clear hY Y) | ((with_reducible first | refine an rfl (ar fun K' hK'=>aa ?_) | refine hK' _ (ab fun Y hY=>aa ?_) | refine ab fun Y hY=>aa ?_ | refine ae tk0 bR (ab fun Y hY=>aa ?_));(try clear hK' K');(try dsimp only [aop]);try simp only [go_sem,↓reduceIte,Nat.reduceEqDiff,Nat.reduceLT,Nat.reduceLeDiff,Nat.reduceAdd,Nat.reduceSub,Nat.reduceMul,Nat.reduceBEq,Nat.reduceBNe,Nat.reducePow,Int.reduceToNat,Int.reduceLE,Int.reduceLT,Int.reduceMul,Int.reduceEq,Int.reducePow,Int.reduceAdd,Int.reduceSub,Int.reduceNeg,reduceCtorEq,bR,Tryz.results113,hlt',hg0,hkw,hfl,hx0,htk]) | (with_reducible first | refine af ?_ | refine ai ?_ | refine aj ?_ | refine ay fun K hK=>?_ | refine ap ?_ | refine al ?_ | refine av ?_ | refine bG ?_) | (with_reducible refine hK _ ?_;clear hK K) | ((with_reducible refine ag ?_ ?_);(· decide)) | (with_reducible refine bp ?_ ?_;(· (try and_intros) <;> first | omega | assumption | (simp only [List.length_append,List.length_map,List.length_cons,List.length_nil] <;> omega))))
   refine fm ?_
   repeat' (first | (with_reducible refine hY _ ?_;clear hY Y) | ((with_reducible first | refine an rfl (ar fun K' hK'=>aa ?_) | refine hK' _ (ab fun Y hY=>aa ?_) | refine ab fun Y hY=>aa ?_ | refine ae tk0 bR (ab fun Y hY=>aa ?_) | refine aa ?_ | refine cV rfl (cT fun K' hK'=>aa ?_) | refine hK' _ _ (ab fun Y hY=>aa ?_) | refine eU rfl (ab fun Y hY=>aa ?_));(try clear hK' K');(try dsimp only [aop]);try simp only [go_sem,↓reduceIte,Nat.reduceEqDiff,Nat.reduceLT,Nat.reduceLeDiff,Nat.reduceAdd,Nat.reduceSub,Nat.reduceMul,Nat.reduceBEq,Nat.reduceBNe,Nat.reducePow,Int.reduceToNat,Int.reduceLE,Int.reduceLT,Int.reduceMul,Int.reduceEq,Int.reducePow,Int.reduceAdd,Int.reduceSub,Int.reduceNeg,reduceCtorEq,bR,Tryz.results113,hn',hfl,hx0,htk]) | (with_reducible first | refine af ?_ | refine bh rfl ?_ | refine cS ?_ ?_ | refine ai ?_ | refine aj ?_ | refine ay fun K hK=>?_ | refine ap ?_ | refine aq ?_ | refine bC ?_ | refine aU ?_ | refine bg ?_ | refine bf ?_ | refine ch ?_ | refine eN fun K hK=>?_) | (with_reducible refine hK _ ?_;clear hK K) | (with_reducible refine hK _ _ ?_ ?_;(· kernel_rfl);clear hK K) | ((with_reducible first | refine aG ?_ ?_ | refine ag ?_ ?_);(· decide)) | (with_reducible refine cg tk0 bR ?_ ?_;(· kernel_rfl)) | (with_reducible refine bp ?_ ?_;(· (try and_intros) <;> first | omega | assumption | (simp only [List.length_append,List.length_map,List.length_cons,List.length_nil] <;> omega))))
   refine bi [0,1,4,6,7] (by simp only [go_sem,↓reduceIte,Nat.reduceEqDiff,Nat.reduceLT,Nat.reduceLeDiff,Nat.reduceAdd,Nat.reduceSub,Nat.reduceMul,Nat.reduceBEq,Nat.reduceBNe,Nat.reducePow,Int.reduceToNat,Int.reduceLE,Int.reduceLT,Int.reduceMul,Int.reduceEq,Int.reducePow,Int.reduceAdd,Int.reduceSub,Int.reduceNeg,reduceCtorEq];exact rfl) ?_
   refine gY ih' ?_
   simp [aJ]
 ·have hlt' : ((k : Int) < (t.length : Int)) = False:=eq_false (by omega)
  obtain rfl : k = t.length:=by omega
  rw [List.take_of_length_le (by omega)]
  clear ih hk ht hso hcl
  cases hc : cX c with
  | true =>
   rw [hc] at hcf
   rw [hq,hc,if_pos rfl,iU]
   repeat' (first | (with_reducible refine hY _ ?_;clear hY Y) | ((with_reducible first | refine an rfl (ar fun K' hK'=>aa ?_) | refine hK' _ (ab fun Y hY=>aa ?_) | refine bl rfl (ab fun Y hY=>aa ?_) | refine ab fun Y hY=>aa ?_ | refine ar fun K' hK'=>aa ?_ | refine ae tk0 bR (ab fun Y hY=>aa ?_) | refine aa ?_ | refine ao ?_);(try clear hK' K');(try dsimp only [aop]);try simp only [go_sem,↓reduceIte,Nat.reduceEqDiff,Nat.reduceLT,Nat.reduceLeDiff,Nat.reduceAdd,Nat.reduceSub,Nat.reduceMul,Nat.reduceBEq,Nat.reduceBNe,Nat.reducePow,Int.reduceToNat,Int.reduceLE,Int.reduceLT,Int.reduceMul,Int.reduceEq,Int.reducePow,Int.reduceAdd,Int.reduceSub,Int.reduceNeg,reduceCtorEq,bR,Tryz.results113,hlt',h64]) | (with_reducible first | refine af ?_ | refine aL ?_ | refine ai ?_ | refine aj ?_ | refine ay fun K hK=>?_ | refine aq ?_ | refine bC ?_ | refine bg ?_ | refine av ?_ | refine au ?_ | refine bf ?_) | (with_reducible refine hK _ ?_;clear hK K) | ((with_reducible first | refine aG ?_ ?_ | refine ag ?_ ?_);(· decide)) | (with_reducible refine ah (hcf) ?_) | (with_reducible refine ah (c5 hhas ?_) ?_;(· simp [cN])))
  | false =>
   rw [hc] at hcf
   rw [hq,hc,if_neg (by decide),ke]
   repeat' (first | (with_reducible refine hY _ ?_;clear hY Y) | ((with_reducible first | refine an rfl (ar fun K' hK'=>aa ?_) | refine hK' _ (ab fun Y hY=>aa ?_) | refine bl rfl (ab fun Y hY=>aa ?_) | refine ab fun Y hY=>aa ?_ | refine ae tk0 bR (ab fun Y hY=>aa ?_) | refine aa ?_ | refine ao ?_);(try clear hK' K');(try dsimp only [aop]);try simp only [go_sem,↓reduceIte,Nat.reduceEqDiff,Nat.reduceLT,Nat.reduceLeDiff,Nat.reduceAdd,Nat.reduceSub,Nat.reduceMul,Nat.reduceBEq,Nat.reduceBNe,Nat.reducePow,Int.reduceToNat,Int.reduceLE,Int.reduceLT,Int.reduceMul,Int.reduceEq,Int.reducePow,Int.reduceAdd,Int.reduceSub,Int.reduceNeg,reduceCtorEq,bR,Tryz.results113,hlt',h64]) | (with_reducible first | refine af ?_ | refine bh rfl ?_ | refine cS ?_ ?_ | refine ai ?_ | refine aj ?_ | refine ay fun K hK=>?_ | refine ap ?_ | refine aq ?_ | refine bC ?_ | refine aS ?_ | refine bg ?_ | refine au ?_ | refine bf ?_) | (with_reducible refine hK _ ?_;clear hK K) | ((with_reducible first | refine aG ?_ ?_ | refine ag ?_ ?_);(· decide)) | (with_reducible refine ah (hcf) ?_))
end Go.Proofs.YtmpdocplcgbpkaaGreatDoor
namespace Go.Proofs.YtmpdocplcgbpkaaGreatDoor
set_option linter.unusedSimpArgs false
set_option linter.unusedVariables false
open Go.RowKit
theorem wn : ∀ (last : Int) (t : List Tm),cU last t = true→oH t
 | _,[],_=>⟨fun i j hi _ _=>absurd hi (Nat.not_lt_zero _),fun i hi=>absurd hi (Nat.not_lt_zero _)⟩
 | last,m :: r,h=>by
  have h0:=h
  unfold cU at h
  rw [Bool.and_eq_true] at h
  have ih:=wn m.1 r h.2
  have hok:=fv m.1 r h.2
  have hm:=(fv last (m :: r) h0 m (by simp)).1
  refine ⟨fun i j hi hj hij=>?_,fun i hi=>?_⟩
  ·cases j with
   | zero=>omega
   | succ j =>
    have hj' : j < r.length:=by simpa using hj
    cases i with
    | zero=>exact (hok r[j] (List.getElem_mem hj')).2.2
    | succ i =>
     have hi' : i < r.length:=by simpa using hi
     exact ih.1 i j hi' hj' (by omega)
  ·cases i with
   | zero=>exact ⟨hm.1,hm.2.1⟩
   | succ i =>
    have hi' : i < r.length:=by simpa using hi
    exact ih.2 i hi'
theorem pP (x : Int) {t : List Tm} {k : Nat} (h : k < t.length) : cz x (t.take (k + 1)) = cz x (t.take k) ++ [(t[k].1,x * t[k].2)]:=by
 unfold cz
 rw [List.take_succ_eq_append_getElem h,List.map_append];rfl
def gd : Nat→List Nat
 | 0=>[0]
 | 1=>[0]
 | _=>[]
theorem tS (x : Int) (h1 : -4096≤x) (h2 : x≤4096) : AFn Tryz.prog 112 [inA x] [] (.c (.bool true)) []:=by
 have e1 : ((-4096 : Int)≤x) = True:=eq_true h1
 have e2 : (x≤4096) = True:=eq_true h2
 refine aD [] Tryz.func112 rfl Tryz.ntmps112 (Nat.le_of_ble_eq_true rfl) (Nat.le_of_ble_eq_true rfl) fun w0 G0 B0 Pr hB0=>?_
 simp only [aO,aA,List.cons_append,List.nil_append]
 repeat' (first | (with_reducible refine hY _ ?_;clear hY Y) | ((with_reducible first | refine an rfl (ar fun K' hK'=>aa ?_) | refine hK' _ (ab fun Y hY=>aa ?_) | refine bl rfl (ab fun Y hY=>aa ?_) | refine ab fun Y hY=>aa ?_ | refine ar fun K' hK'=>aa ?_ | refine ae tk0 gd (ab fun Y hY=>aa ?_) | refine aa ?_ | refine ao ?_);(try clear hK' K');(try dsimp only [aop]);try simp only [go_sem,↓reduceIte,Nat.reduceEqDiff,Nat.reduceLT,Nat.reduceLeDiff,Nat.reduceAdd,Nat.reduceSub,Nat.reduceMul,Nat.reduceBEq,Nat.reduceBNe,Nat.reducePow,Int.reduceToNat,Int.reduceLE,Int.reduceLT,Int.reduceMul,Int.reduceEq,Int.reducePow,Int.reduceAdd,Int.reduceSub,Int.reduceNeg,reduceCtorEq,gd,Tryz.results112,e1,e2]) | (with_reducible first | refine af ?_ | refine aL ?_ | refine ai ?_ | refine aj ?_ | refine ay fun K hK=>?_ | refine au ?_) | (with_reducible refine hK _ ?_;clear hK K) | ((with_reducible refine aG ?_ ?_);(· decide)))
def cA : Nat→List Nat
 | 0=>[0,1,2,3]
 | 1=>[2,3,4,5,8]
 | 2=>[8]
 | 3=>[2,3,4,5,8]
 | 4=>[8]
 | 5=>[2,3,4,5,8]
 | 6=>[2,3,4,5,8,10]
 | 7=>[2,3,4,5,8,10,38,39,40]
 | 8=>[2,3,4,5,8,10,38,39,40]
 | 9=>[2,3,4,5,8,10,12,38,39,40]
 | 10=>[2,3,4,5,8,10,38,39,40]
 | 11=>[2,3,4,5,8,10]
 | 12=>[2,3,4,5,8,10,56,57,58]
 | 13=>[2,3,4,5,8,10,56,57,58]
 | 14=>[2,3,4,5,8,10,14,56,57,58]
 | 15=>[2,3,4,5,8,10,56,57,58]
 | 16=>[2,3,4,5,8,10]
 | _=>[]
set_option maxRecDepth 100000 in
set_option maxHeartbeats 16000000 in
theorem vC (l : Ln) (d y : Int) (hd : 0≤d∧d≤1) (hy : d = y) (hl : cY l = true) (q : Nat × Ln) (hq : q = if cX (d - l.c) then (0,⟨d - l.c,cz (-1) l.t⟩) else (3,⟨0,[]⟩)) :
  AFn Tryz.prog 80 [.agg (lnA l),.agg [inA d,.sl [] 0 .full],inA (-1),inA y] [] (ll q) []:=by
 obtain ⟨⟨c1,c2⟩,h64,hm⟩:=ef hl
 have hts : cU (-1) l.t = true:=by unfold cY at hl;simp only [Bool.and_eq_true] at hl;exact hl.2.2
 have hts2:=m8 _ _ hts
 have hok2:=fv _ _ hts2
 have hca : AFn Tryz.prog 78 [.agg (lnA l)] [] (.c .nilIface) []:=by
  have:=d3 l
  rw [show ip l = b9 0 by unfold ip;rw [hl];rfl] at this
  exact this
 have hd0 : cY ⟨d,[]⟩ = true:=by unfold cY;rw [show cX d = true from coefB_iff.2 (by omega)];rfl
 have hcb0:=d3 ⟨d,[]⟩
 rw [show ip ⟨d,[]⟩ = b9 0 by unfold ip;rw [hd0];rfl] at hcb0
 have hcb : AFn Tryz.prog 78 [.agg [inA d,.sl [] 0 .full]] [] (.c .nilIface) []:=hJ 2 hcb0 (by simp [wkD,aJ])
 have hlen : (cz (-1) l.t).length = l.t.length:=List.length_map ..
 have hsum:=By (d - l.c) (cz (-1) l.t) (wn _ _ hts2) (fun m hmm=>⟨(hok2 m hmm).2.1,coefB_iff.2 ⟨(hok2 m hmm).1.2.2.1,(hok2 m hmm).1.2.2.2⟩⟩) (by omega) q hq
 rw [hlen] at hsum
 have ht1:=tS (-1) (by decide) (by decide)
 have ht2:=tS y (by omega) (by omega)
 have hwy : IntKind.i64.wrap (y * d) = d:=by
  have : y * d = d:=by
   rcases (show d = 0∨d = 1 by omega) with h | h
   ·rw [h];simp
   ·rw [← hy,h];rfl
  rw [this];exact aY (by omega) (by omega)
 have hwc : IntKind.i64.wrap (-1 * l.c) = -l.c:=by rw [aY (by omega) (by omega)];omega
 have hwn : IntKind.i64.wrap (-l.c) = -l.c:=aY (by omega) (by omega)
 have hws : IntKind.i64.wrap (-l.c + d) = d - l.c:=by rw [aY (by omega) (by omega)];omega
 clear hts hts2 hok2 hl hd0 hcb0
 obtain ⟨c,t⟩:=l
 simp only at *
 refine aD [] Tryz.func80 rfl Tryz.ntmps80 (Nat.le_of_ble_eq_true rfl) (Nat.le_of_ble_eq_true rfl) fun w0 G0 B0 Pr hB0=>?_
 simp only [aO,aA,List.cons_append,List.nil_append]
 repeat' (first | (with_reducible refine hY _ ?_;clear hY Y) | ((with_reducible first | refine an rfl (ar fun K' hK'=>aa ?_) | refine hK' _ (ab fun Y hY=>aa ?_) | refine bl rfl (ab fun Y hY=>aa ?_) | refine ab fun Y hY=>aa ?_ | refine ar fun K' hK'=>aa ?_ | refine ae tk0 cA (ab fun Y hY=>aa ?_) | refine aa ?_);(try clear hK' K');(try dsimp only [aop]);try simp only [go_sem,↓reduceIte,Nat.reduceEqDiff,Nat.reduceLT,Nat.reduceLeDiff,Nat.reduceAdd,Nat.reduceSub,Nat.reduceMul,Nat.reduceBEq,Nat.reduceBNe,Nat.reducePow,Int.reduceToNat,Int.reduceLE,Int.reduceLT,Int.reduceMul,Int.reduceEq,Int.reducePow,Int.reduceAdd,Int.reduceSub,Int.reduceNeg,reduceCtorEq,cA,Tryz.results80]) | (with_reducible first | refine af ?_ | refine aL ?_ | refine ai ?_ | refine aj ?_ | refine ay fun K hK=>?_ | refine aq ?_ | refine aU ?_ | refine al ?_ | refine av ?_ | refine bG ?_) | (with_reducible refine hK _ ?_;clear hK K) | ((with_reducible first | refine aG ?_ ?_ | refine ag ?_ ?_);(· decide)) | (with_reducible refine ah (hca) ?_) | (with_reducible refine ah (hcb) ?_) | (with_reducible refine ah (ht1) ?_) | (with_reducible refine ah (ht2) ?_) | (with_reducible refine ce (cr) ?_))
 refine eu (gp (b:=10053) (t:=10) 94 (by decide) (by decide) rfl rfl) ?_
 refine bK (α:=Nat) (fun k=>[(2,inA (-1)),(3,inA y),(4,.loc 10004 0),(5,.loc 10005 0),(8,.loc 10008 0),(10,.sl (aJ (cz (-1) (t.take k))) k (.tok 10053)),(38,.sl (aJ t) t.length .none),(39,inA (t.length : Int)),(40,inA (k : Int)),(10004,.bc [inA c,.sl (aJ t) t.length .none] 24),(10005,.bc [inA d,.sl [] 0 .full] 24),(10008,.bc [inA 0,.sl [] 0 .full] 24),(10053,.bt k 94)])
  (fun k=>k≤t.length) (fun k=>t.length - k) 0 [2,3,4,5,8,10,38,39,40] ?_ (Nat.zero_le _) ?_
 ·simp only [go_sem,↓reduceIte,Nat.reduceEqDiff,Nat.reduceLT,Nat.reduceLeDiff,Nat.reduceAdd,Nat.reduceSub,Nat.reduceMul,Nat.reduceBEq,Nat.reduceBNe,Nat.reducePow,Int.reduceToNat,Int.reduceLE,Int.reduceLT,Int.reduceMul,Int.reduceEq,Int.reducePow,Int.reduceAdd,Int.reduceSub,Int.reduceNeg,reduceCtorEq] <;> rfl
 intro k hk ih
 by_cases hlt : k < t.length
 ·have hlt' : ((k : Int) < (t.length : Int)) = True:=eq_true (by omega)
  have hkw:=cf (n:=k) (by omega)
  have hg0:=ez hlt
  have hfl:=cl t
  have hcl : (aJ (cz (-1) (t.take k))).length = k * 2:=by rw [cl,show (cz (-1) (t.take k)).length = (t.take k).length from List.length_map ..,List.length_take];omega
  have hmem:=hm _ (List.getElem_mem hlt)
  have ih':=ih (k + 1) (by omega) (by omega)
  rw [pP (-1) hlt,iC] at ih'
  clear ih hca hcb ht1 ht2 hsum hwy hwc hws hwn hm
  generalize t[k] = m at *
  obtain ⟨v,x⟩:=m
  obtain ⟨b1,b2,b3,b4⟩:=hmem
  simp only at b3 b4 hg0 ih'
  have hw : IntKind.i64.wrap (-1 * x) = -1 * x:=aY (by omega) (by omega)
  have hw2 : IntKind.i64.wrap (-x) = -1 * x:=by rw [aY (by omega) (by omega)];omega
  generalize -1 * x = z at *
  generalize cz (-1) (t.take k) = T at *
  repeat' (first | (with_reducible refine hY _ ?_;clear hY Y) | ((with_reducible first | refine an rfl (ar fun K' hK'=>aa ?_) | refine hK' _ (ab fun Y hY=>aa ?_) | refine ab fun Y hY=>aa ?_ | refine ae tk0 cA (ab fun Y hY=>aa ?_));(try clear hK' K');(try dsimp only [aop]);try simp only [go_sem,↓reduceIte,Nat.reduceEqDiff,Nat.reduceLT,Nat.reduceLeDiff,Nat.reduceAdd,Nat.reduceSub,Nat.reduceMul,Nat.reduceBEq,Nat.reduceBNe,Nat.reducePow,Int.reduceToNat,Int.reduceLE,Int.reduceLT,Int.reduceMul,Int.reduceEq,Int.reducePow,Int.reduceAdd,Int.reduceSub,Int.reduceNeg,reduceCtorEq,cA,Tryz.results80,hlt',hfl,hg0,hkw,hw,hw2,hcl]) | (with_reducible first | refine af ?_ | refine ai ?_ | refine aj ?_ | refine ay fun K hK=>?_ | refine ap ?_ | refine aU ?_ | refine al ?_ | refine av ?_) | (with_reducible refine hK _ ?_;clear hK K) | ((with_reducible refine ag ?_ ?_);(· decide)) | (with_reducible refine bp ?_ ?_;(· (try and_intros) <;> first | omega | assumption | (simp only [List.length_append,List.length_map,List.length_cons,List.length_nil] <;> omega))))
  refine bi [2,3,4,5,8,10,38,39,40] (by simp only [go_sem,↓reduceIte,Nat.reduceEqDiff,Nat.reduceLT,Nat.reduceLeDiff,Nat.reduceAdd,Nat.reduceSub,Nat.reduceMul,Nat.reduceBEq,Nat.reduceBNe,Nat.reducePow,Int.reduceToNat,Int.reduceLE,Int.reduceLT,Int.reduceMul,Int.reduceEq,Int.reducePow,Int.reduceAdd,Int.reduceSub,Int.reduceNeg,reduceCtorEq];exact rfl) ?_
  refine gY ih' ?_
  simp [aJ,hw2]
 ·have hlt' : ((k : Int) < (t.length : Int)) = False:=eq_false (by omega)
  obtain rfl : k = t.length:=by omega
  rw [List.take_of_length_le (by omega)]
  clear ih hca hcb ht1 ht2
  repeat' (first | (with_reducible refine hY _ ?_;clear hY Y) | ((with_reducible first | refine an rfl (ar fun K' hK'=>aa ?_) | refine hK' _ (ab fun Y hY=>aa ?_) | refine ab fun Y hY=>aa ?_ | refine ae tk0 cA (ab fun Y hY=>aa ?_));(try clear hK' K');(try dsimp only [aop]);try simp only [go_sem,↓reduceIte,Nat.reduceEqDiff,Nat.reduceLT,Nat.reduceLeDiff,Nat.reduceAdd,Nat.reduceSub,Nat.reduceMul,Nat.reduceBEq,Nat.reduceBNe,Nat.reducePow,Int.reduceToNat,Int.reduceLE,Int.reduceLT,Int.reduceMul,Int.reduceEq,Int.reducePow,Int.reduceAdd,Int.reduceSub,Int.reduceNeg,reduceCtorEq,cA,Tryz.results80,hlt']) | (with_reducible first | refine af ?_ | refine ai ?_ | refine aj ?_ | refine ay fun K hK=>?_ | refine aq ?_ | refine bC ?_ | refine bg ?_ | refine al ?_ | refine bf ?_ | refine bG ?_) | (with_reducible refine hK _ ?_;clear hK K) | ((with_reducible refine ag ?_ ?_);(· decide)))
  refine fm ?_
  cases hcc : cX (d - c) with
  | true =>
   obtain rfl : q = (0,⟨d - c,cz (-1) t⟩):=by rw [hq,hcc];rfl
   rw [iU] at hsum ⊢
   try simp only [hlen] at hsum
   try simp only [hlen]
   repeat' (first | (with_reducible refine hY _ ?_;clear hY Y) | ((with_reducible first | refine an rfl (ar fun K' hK'=>aa ?_) | refine hK' _ (ab fun Y hY=>aa ?_) | refine ab fun Y hY=>aa ?_ | refine ae tk0 cA (ab fun Y hY=>aa ?_) | refine aa ?_ | refine ao ?_);(try clear hK' K');(try dsimp only [aop]);try simp only [go_sem,↓reduceIte,Nat.reduceEqDiff,Nat.reduceLT,Nat.reduceLeDiff,Nat.reduceAdd,Nat.reduceSub,Nat.reduceMul,Nat.reduceBEq,Nat.reduceBNe,Nat.reducePow,Int.reduceToNat,Int.reduceLE,Int.reduceLT,Int.reduceMul,Int.reduceEq,Int.reducePow,Int.reduceAdd,Int.reduceSub,Int.reduceNeg,reduceCtorEq,cA,Tryz.results80,hwy,hwc,hwn,hws]) | (with_reducible first | refine af ?_ | refine ai ?_ | refine aj ?_ | refine ay fun K hK=>?_ | refine bC ?_ | refine bg ?_ | refine au ?_ | refine bf ?_) | (with_reducible refine hK _ ?_;clear hK K) | ((with_reducible refine ag ?_ ?_);(· decide)) | ((with_reducible refine gM (fun hc=>?_) (fun hc=>?_)) <;> (try simp only [decide_eq_true_eq,decide_eq_false_iff_not,Bool.not_true,Bool.not_false,Bool.not_eq_true',Bool.not_eq_false'] at hc) <;> (try (exfalso;omega))) | (with_reducible refine ah (c5 hsum ?_) ?_;(· simp [cN])))
  | false =>
   obtain rfl : q = (3,⟨0,[]⟩):=by rw [hq,hcc];rfl
   rw [ke] at hsum ⊢
   repeat' (first | (with_reducible refine hY _ ?_;clear hY Y) | ((with_reducible first | refine an rfl (ar fun K' hK'=>aa ?_) | refine hK' _ (ab fun Y hY=>aa ?_) | refine ab fun Y hY=>aa ?_ | refine ae tk0 cA (ab fun Y hY=>aa ?_) | refine aa ?_ | refine ao ?_);(try clear hK' K');(try dsimp only [aop]);try simp only [go_sem,↓reduceIte,Nat.reduceEqDiff,Nat.reduceLT,Nat.reduceLeDiff,Nat.reduceAdd,Nat.reduceSub,Nat.reduceMul,Nat.reduceBEq,Nat.reduceBNe,Nat.reducePow,Int.reduceToNat,Int.reduceLE,Int.reduceLT,Int.reduceMul,Int.reduceEq,Int.reducePow,Int.reduceAdd,Int.reduceSub,Int.reduceNeg,reduceCtorEq,cA,Tryz.results80,hwy,hwc,hwn,hws]) | (with_reducible first | refine af ?_ | refine ai ?_ | refine aj ?_ | refine ay fun K hK=>?_ | refine bC ?_ | refine bg ?_ | refine au ?_ | refine bf ?_) | (with_reducible refine hK _ ?_;clear hK K) | ((with_reducible refine ag ?_ ?_);(· decide)) | ((with_reducible refine gM (fun hc=>?_) (fun hc=>?_)) <;> (try simp only [decide_eq_true_eq,decide_eq_false_iff_not,Bool.not_true,Bool.not_false,Bool.not_eq_true',Bool.not_eq_false'] at hc) <;> (try (exfalso;omega))) | (with_reducible refine ah (c5 hsum ?_) ?_;(· simp [cN])))
end Go.Proofs.YtmpdocplcgbpkaaGreatDoor
