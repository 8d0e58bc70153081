/- What a lemma's opposites say, the document's way, in K. What a lemma's opposites say, the code's way, in K. What a lemma's opposites say, the code's way, in K: cert.Premises. A certificate checked, in K: cert.lemma, cert.Check. -/
import Derived.Test.YtmpdocplcgbpkaaGreatDoorZ15
import Derived.Test.YtmpdocplcgbpkaaGreatDoorZ17
import Derived.Test.YtmpdocplcgbpkaaGreatDoorZ10
import Derived.Test.YtmpdocplcgbpkaaGreatDoorZ18
import Derived.Test.YtmpdocplcgbpkaaGreatDoorZ25
import Derived.Test.YtmpdocplcgbpkaaGreatDoorZ28
namespace Go.Proofs.YtmpdocplcgbpkaaGreatDoor
set_option linter.unusedSimpArgs false
set_option linter.unusedVariables false
open Go.RowKit
abbrev zsA (zs : List Int) : AV:=.sl (zs.map inA) zs.length .none
theorem BK {zs : List Int} {k : Nat} (h : k < zs.length) : (zs.map inA).getD k .u = inA zs[k]:=by simp [List.getD_eq_getElem?_getD,h]
def mV (q : Nat × List Ln) (e : AV) : AV:=.tup [if q.1 = 0 then gB q.2 else .sl [] 0 .full,e]
theorem y3 (l : List Ln) (e : AV) : mV (0,l) e = .tup [gB l,e]:=rfl
theorem y4 {n : Nat} (h : n ≠ 0) (l : List Ln) (e : AV) : mV (n,l) e = .tup [.sl [] 0 .full,e]:=by unfold mV;rw [if_neg h]
theorem qz (a : List Ln) (l : Ln) : (a ++ [l]).flatMap lnA = a.flatMap lnA ++ [inA l.c,.sl (aJ l.t) l.t.length .none]:=by rw [List.flatMap_append];simp
theorem sG (ls : List Ln) {zs : List Int} {k : Nat} (h : k < zs.length) (out : List Ln) : iv ls (zs.drop k) out = if (jr ls zs[k]).1 = 0 then iv ls (zs.drop (k + 1)) (out ++ [(jr ls zs[k]).2]) else ((jr ls zs[k]).1,[]):=by
 rw [List.drop_eq_getElem_cons h];rfl
end Go.Proofs.YtmpdocplcgbpkaaGreatDoor
namespace Go.Proofs.YtmpdocplcgbpkaaGreatDoor
set_option linter.unusedSimpArgs false
set_option linter.unusedVariables false
open Go.RowKit
def a7 : Nat→List Nat
 | 0=>[0,1]
 | 1=>[0,1]
 | 2=>[0,1,7,8]
 | 3=>[0,1,7,8]
 | 4=>[0,1,5,7,8]
 | 5=>[5]
 | 6=>[0,1,7,8]
 | 7=>[]
 | _=>[]
def cM : Nat→List Nat
 | 0=>[0,1]
 | 1=>[0,1]
 | _=>[]
set_option maxRecDepth 100000 in
set_option maxHeartbeats 8000000 in
theorem yd (l : List Ln) (F : Nat) (p : Ln→Bool) (hF : aM Tryz.prog F = true) (hl : Lg l) (h : ∀ y ∈ l,AFn Tryz.prog F [.agg (lnA y)] [] (.c (.bool (p y))) []) :
  AFn Tryz.prog 106 [gB l,.fn (.func F) [] []] [] (inA (fiP p l)) []:=by
 unfold Lg at hl
 refine aD [] Tryz.func106 rfl Tryz.ntmps106 (Nat.le_of_ble_eq_true rfl) (Nat.le_of_ble_eq_true rfl) fun w0 G0 B0 Pr hB0=>?_
 simp only [aO,aA,List.cons_append,List.nil_append]
 repeat' (first | (with_reducible refine hY _ ?_;clear hY Y) | ((with_reducible first | refine an rfl (ar fun K' hK'=>aa ?_) | refine hK' _ (ab fun Y hY=>aa ?_) | refine ae tk0 a7 (ab fun Y hY=>aa ?_));(try clear hK' K');(try dsimp only [aop]);try simp only [go_sem,↓reduceIte,Nat.reduceEqDiff,Nat.reduceLT,Nat.reduceLeDiff,Nat.reduceAdd,Nat.reduceSub,Nat.reduceMul,Nat.reduceBEq,Nat.reduceBNe,Nat.reducePow,Int.reduceToNat,Int.reduceLE,Int.reduceLT,Int.reduceMul,Int.reduceEq,Int.reducePow,Int.reduceAdd,Int.reduceSub,Int.reduceNeg,reduceCtorEq,a7,Tryz.results106]) | (with_reducible first | refine af ?_ | refine ai ?_ | refine aj ?_ | refine ay fun K hK=>?_ | refine al ?_ | refine bG ?_) | (with_reducible refine hK _ ?_;clear hK K))
 refine bK (α:=Nat) (fun k=>[(0,gB l),(1,.fn (.func F) [] []),(7,inA (l.length : Int)),(8,inA (k : Int))])
  (fun k=>k≤l.length∧∀ j (hj : j < l.length),j < k→p l[j] = false) (fun k=>l.length - k) 0 [0,1,7,8] ?_ ⟨Nat.zero_le _,fun j _ hj=>absurd hj (Nat.not_lt_zero _)⟩ ?_
 ·simp only [go_sem,↓reduceIte,Nat.reduceEqDiff,Nat.reduceLT,Nat.reduceLeDiff,Nat.reduceAdd,Nat.reduceSub,Nat.reduceMul,Nat.reduceBEq,Nat.reduceBNe,Nat.reducePow,Int.reduceToNat,Int.reduceLE,Int.reduceLT,Int.reduceMul,Int.reduceEq,Int.reducePow,Int.reduceAdd,Int.reduceSub,Int.reduceNeg,reduceCtorEq] <;> rfl
 rintro k ⟨hk,hall⟩ ih
 by_cases hlt : k < l.length
 ·have hlt' : ((k : Int) < (l.length : Int)) = True:=eq_true (by omega)
  have hkw:=cf (n:=k) (by omega)
  have h1:=h l[k] (List.getElem_mem hlt)
  have hg0:=jo hlt
  have hfl:=ei l
  have hfi:=lz (p:=p) hlt hall
  have hnx : p l[k] = false→∀ j (hj : j < l.length),j < k + 1→p l[j] = false:=fun e j hj hjk=>by
   by_cases hj2 : j < k
   ·exact hall j hj hj2
   ·have : j = k:=by omega
    subst this;exact e
  generalize l[k] = t at *
  generalize hp : p t = b at *
  cases b with
  | true =>
   rw [hfi rfl]
   clear ih hfi hnx hall h
   repeat' (first | (with_reducible refine hY _ ?_;clear hY Y) | ((with_reducible first | refine an rfl (ar fun K' hK'=>aa ?_) | refine hK' _ (ab fun Y hY=>aa ?_) | refine ab fun Y hY=>aa ?_ | refine ae tk0 a7 (ab fun Y hY=>aa ?_) | refine aa ?_ | refine ao ?_);(try clear hK' K');(try dsimp only [aop]);try simp only [go_sem,↓reduceIte,Nat.reduceEqDiff,Nat.reduceLT,Nat.reduceLeDiff,Nat.reduceAdd,Nat.reduceSub,Nat.reduceMul,Nat.reduceBEq,Nat.reduceBNe,Nat.reducePow,Int.reduceToNat,Int.reduceLE,Int.reduceLT,Int.reduceMul,Int.reduceEq,Int.reducePow,Int.reduceAdd,Int.reduceSub,Int.reduceNeg,reduceCtorEq,a7,Tryz.results106,hlt',hfl,hg0,hkw,hF]) | (with_reducible first | refine af ?_ | refine ai ?_ | refine aj ?_ | refine ay fun K hK=>?_ | refine ap ?_ | refine aS ?_ | refine bb ?_ | refine al ?_ | refine av ?_ | refine au ?_) | (with_reducible refine hK _ ?_;clear hK K) | ((with_reducible refine ag ?_ ?_);(· decide)) | (with_reducible refine bp ?_ ?_;(· (try and_intros) <;> first | omega | assumption | (simp only [List.length_append,List.length_map,List.length_cons,List.length_nil] <;> omega))) | (with_reducible refine ah (h1) ?_))
  | false =>
   clear hfi
   repeat' (first | (with_reducible refine hY _ ?_;clear hY Y) | ((with_reducible first | refine an rfl (ar fun K' hK'=>aa ?_) | refine hK' _ (ab fun Y hY=>aa ?_) | refine ab fun Y hY=>aa ?_ | refine ae tk0 a7 (ab fun Y hY=>aa ?_) | refine aa ?_);(try clear hK' K');(try dsimp only [aop]);try simp only [go_sem,↓reduceIte,Nat.reduceEqDiff,Nat.reduceLT,Nat.reduceLeDiff,Nat.reduceAdd,Nat.reduceSub,Nat.reduceMul,Nat.reduceBEq,Nat.reduceBNe,Nat.reducePow,Int.reduceToNat,Int.reduceLE,Int.reduceLT,Int.reduceMul,Int.reduceEq,Int.reducePow,Int.reduceAdd,Int.reduceSub,Int.reduceNeg,reduceCtorEq,a7,Tryz.results106,hlt',hfl,hg0,hkw,hF]) | (with_reducible first | refine af ?_ | refine ai ?_ | refine aj ?_ | refine ay fun K hK=>?_ | refine ap ?_ | refine aq ?_ | refine aU ?_ | refine al ?_ | refine av ?_) | (with_reducible refine hK _ ?_;clear hK K) | ((with_reducible refine ag ?_ ?_);(· decide)) | (with_reducible refine bp ?_ ?_;(· (try and_intros) <;> first | omega | assumption | (simp only [List.length_append,List.length_map,List.length_cons,List.length_nil] <;> omega))) | (with_reducible refine ah (h1) ?_))
   refine bi [0,1,7,8] (by simp only [go_sem,↓reduceIte,Nat.reduceEqDiff,Nat.reduceLT,Nat.reduceLeDiff,Nat.reduceAdd,Nat.reduceSub,Nat.reduceMul,Nat.reduceBEq,Nat.reduceBNe,Nat.reducePow,Int.reduceToNat,Int.reduceLE,Int.reduceLT,Int.reduceMul,Int.reduceEq,Int.reducePow,Int.reduceAdd,Int.reduceSub,Int.reduceNeg,reduceCtorEq];exact rfl) ?_
   exact ih (k + 1) ⟨by omega,hnx rfl⟩ (by omega)
 ·have hlt' : ((k : Int) < (l.length : Int)) = False:=eq_false (by omega)
  rw [lC fun j hj=>hall j hj (by omega)]
  clear ih h hall
  repeat' (first | (with_reducible refine hY _ ?_;clear hY Y) | ((with_reducible first | refine an rfl (ar fun K' hK'=>aa ?_) | refine hK' _ (ab fun Y hY=>aa ?_) | refine ab fun Y hY=>aa ?_ | refine ae tk0 a7 (ab fun Y hY=>aa ?_) | refine aa ?_ | refine ao ?_);(try clear hK' K');(try dsimp only [aop]);try simp only [go_sem,↓reduceIte,Nat.reduceEqDiff,Nat.reduceLT,Nat.reduceLeDiff,Nat.reduceAdd,Nat.reduceSub,Nat.reduceMul,Nat.reduceBEq,Nat.reduceBNe,Nat.reducePow,Int.reduceToNat,Int.reduceLE,Int.reduceLT,Int.reduceMul,Int.reduceEq,Int.reducePow,Int.reduceAdd,Int.reduceSub,Int.reduceNeg,reduceCtorEq,a7,Tryz.results106,hlt']) | (with_reducible first | refine af ?_ | refine ai ?_ | refine aj ?_ | refine ay fun K hK=>?_ | refine aq ?_ | refine bC ?_ | refine bg ?_ | refine au ?_ | refine bf ?_) | (with_reducible refine hK _ ?_;clear hK K) | ((with_reducible refine ag ?_ ?_);(· decide)))
set_option maxRecDepth 100000 in
theorem ya (l : List Ln) (F : Nat) (p : Ln→Bool) (hF : aM Tryz.prog F = true) (hl : Lg l) (h : ∀ y ∈ l,AFn Tryz.prog F [.agg (lnA y)] [] (.c (.bool (p y))) []) :
  AFn Tryz.prog 76 [gB l,.fn (.func F) [] []] [] (.c (.bool (l.any p))) []:=by
 have h1:=yd l F p hF hl h
 have h2 : decide (0≤fiP p l) = l.any p:=j3 p l
 refine aD [] Tryz.func76 rfl Tryz.ntmps76 (Nat.le_of_ble_eq_true rfl) (Nat.le_of_ble_eq_true rfl) fun w0 G0 B0 Pr hB0=>?_
 simp only [aO,aA,List.cons_append,List.nil_append]
 repeat' (first | (with_reducible refine hY _ ?_;clear hY Y) | ((with_reducible first | refine an rfl (ar fun K' hK'=>aa ?_) | refine hK' _ (ab fun Y hY=>aa ?_) | refine ae tk0 cM (ab fun Y hY=>aa ?_) | refine aa ?_ | refine ao ?_);(try clear hK' K');(try dsimp only [aop]);try simp only [go_sem,↓reduceIte,Nat.reduceEqDiff,Nat.reduceLT,Nat.reduceLeDiff,Nat.reduceAdd,Nat.reduceSub,Nat.reduceMul,Nat.reduceBEq,Nat.reduceBNe,Nat.reducePow,Int.reduceToNat,Int.reduceLE,Int.reduceLT,Int.reduceMul,Int.reduceEq,Int.reducePow,Int.reduceAdd,Int.reduceSub,Int.reduceNeg,reduceCtorEq,cM,Tryz.results76,h2]) | (with_reducible first | refine af ?_ | refine ai ?_ | refine aj ?_ | refine ay fun K hK=>?_ | refine au ?_) | (with_reducible refine hK _ ?_;clear hK K) | (with_reducible refine ah (h1) ?_))
def c6 : Nat→List Nat
 | 0=>[0]
 | 1=>[1]
 | _=>[]
def cb : Nat→List Nat
 | 0=>[0,1]
 | 1=>[0,1]
 | _=>[]
theorem qG : aM Tryz.prog 77 = true:=by kernel_rfl
theorem qH : aM Tryz.prog 79 = true:=by kernel_rfl
set_option maxRecDepth 100000 in
theorem yY (l : Ln) : AFn Tryz.prog 77 [.agg (lnA l)] [] (.c (.bool (!cY l))) []:=by
 have hck:=d3 l
 unfold ip at hck
 cases hb : cY l with
 | true =>
  rw [hb,if_pos rfl,cR] at hck
  clear hb
  refine aD [] Tryz.func77 rfl Tryz.ntmps77 (Nat.le_of_ble_eq_true rfl) (Nat.le_of_ble_eq_true rfl) fun w0 G0 B0 Pr hB0=>?_
  simp only [aO,aA,List.cons_append,List.nil_append]
  repeat' (first | (with_reducible refine hY _ ?_;clear hY Y) | ((with_reducible first | refine an rfl (ar fun K' hK'=>aa ?_) | refine hK' _ (ab fun Y hY=>aa ?_) | refine ae tk0 c6 (ab fun Y hY=>aa ?_) | refine aa ?_ | refine ao ?_);(try clear hK' K');(try dsimp only [aop]);try simp only [go_sem,↓reduceIte,Nat.reduceEqDiff,Nat.reduceLT,Nat.reduceLeDiff,Nat.reduceAdd,Nat.reduceSub,Nat.reduceMul,Nat.reduceBEq,Nat.reduceBNe,Nat.reducePow,Int.reduceToNat,Int.reduceLE,Int.reduceLT,Int.reduceMul,Int.reduceEq,Int.reducePow,Int.reduceAdd,Int.reduceSub,Int.reduceNeg,reduceCtorEq,c6,Tryz.results77]) | (with_reducible first | refine af ?_ | refine ai ?_ | refine aj ?_ | refine ay fun K hK=>?_ | refine au ?_) | (with_reducible refine hK _ ?_;clear hK K) | (with_reducible refine ah (hck) ?_) | (with_reducible refine ce (cr) ?_))
 | false =>
  rw [hb,if_neg (by decide),di] at hck
  clear hb
  refine aD [] Tryz.func77 rfl Tryz.ntmps77 (Nat.le_of_ble_eq_true rfl) (Nat.le_of_ble_eq_true rfl) fun w0 G0 B0 Pr hB0=>?_
  simp only [aO,aA,List.cons_append,List.nil_append]
  repeat' (first | (with_reducible refine hY _ ?_;clear hY Y) | ((with_reducible first | refine an rfl (ar fun K' hK'=>aa ?_) | refine hK' _ (ab fun Y hY=>aa ?_) | refine ae tk0 c6 (ab fun Y hY=>aa ?_) | refine aa ?_ | refine ao ?_);(try clear hK' K');(try dsimp only [aop]);try simp only [go_sem,↓reduceIte,Nat.reduceEqDiff,Nat.reduceLT,Nat.reduceLeDiff,Nat.reduceAdd,Nat.reduceSub,Nat.reduceMul,Nat.reduceBEq,Nat.reduceBNe,Nat.reducePow,Int.reduceToNat,Int.reduceLE,Int.reduceLT,Int.reduceMul,Int.reduceEq,Int.reducePow,Int.reduceAdd,Int.reduceSub,Int.reduceNeg,reduceCtorEq,c6,Tryz.results77]) | (with_reducible first | refine af ?_ | refine ai ?_ | refine aj ?_ | refine ay fun K hK=>?_ | refine au ?_) | (with_reducible refine hK _ ?_;clear hK K) | (with_reducible refine ah (hck) ?_))
set_option maxRecDepth 100000 in
set_option maxHeartbeats 8000000 in
theorem yZ (n : Nat) (z : Int) (hn : n≤1000000) : AFn Tryz.prog 79 [inA z,.loc 20000 0] [.bc [inA (n : Int)] 3] (.c (.bool (ml n z))) [.bc [inA (n : Int)] 3]:=by
 have hwn : IntKind.i64.wrap (0 - (n : Int)) = -(n : Int):=by rw [aY (by omega) (by omega)];omega
 have hwn2 : IntKind.i64.wrap (-(n : Int)) = -(n : Int):=aY (by omega) (by omega)
 unfold ml
 by_cases h1 : z = 0
 ·have h1' : (z = 0) = True:=eq_true h1
  rw [decide_eq_true h1,Bool.true_or,Bool.true_or]
  refine aD [] Tryz.func79 rfl Tryz.ntmps79 (Nat.le_of_ble_eq_true rfl) (Nat.le_of_ble_eq_true rfl) fun w0 G0 B0 Pr hB0=>?_
  simp only [aO,aA,List.cons_append,List.nil_append]
  repeat' (first | (with_reducible refine hY _ ?_;clear hY Y) | ((with_reducible first | refine an rfl (ar fun K' hK'=>aa ?_) | refine hK' _ (ab fun Y hY=>aa ?_) | refine bl rfl (ab fun Y hY=>aa ?_) | refine ab fun Y hY=>aa ?_ | refine ae tk0 cb (ab fun Y hY=>aa ?_) | refine aa ?_ | refine ao ?_);(try clear hK' K');(try dsimp only [aop]);try simp only [go_sem,↓reduceIte,Nat.reduceEqDiff,Nat.reduceLT,Nat.reduceLeDiff,Nat.reduceAdd,Nat.reduceSub,Nat.reduceMul,Nat.reduceBEq,Nat.reduceBNe,Nat.reducePow,Int.reduceToNat,Int.reduceLE,Int.reduceLT,Int.reduceMul,Int.reduceEq,Int.reducePow,Int.reduceAdd,Int.reduceSub,Int.reduceNeg,reduceCtorEq,cb,Tryz.results79,h1']) | (with_reducible first | refine af ?_ | refine bh rfl ?_ | refine cS ?_ ?_ | refine ai ?_ | refine aj ?_ | refine ay fun K hK=>?_ | refine au ?_) | (with_reducible refine hK _ ?_;clear hK K) | ((with_reducible refine aG ?_ ?_);(· decide)))
 have h1' : (z = 0) = False:=eq_false h1
 rw [decide_eq_false h1,Bool.false_or]
 by_cases h2 : (n : Int) < z
 ·have h2' : ((n : Int) < z) = True:=eq_true h2
  rw [decide_eq_true h2,Bool.true_or]
  refine aD [] Tryz.func79 rfl Tryz.ntmps79 (Nat.le_of_ble_eq_true rfl) (Nat.le_of_ble_eq_true rfl) fun w0 G0 B0 Pr hB0=>?_
  simp only [aO,aA,List.cons_append,List.nil_append]
  repeat' (first | (with_reducible refine hY _ ?_;clear hY Y) | ((with_reducible first | refine an rfl (ar fun K' hK'=>aa ?_) | refine hK' _ (ab fun Y hY=>aa ?_) | refine bl rfl (ab fun Y hY=>aa ?_) | refine ab fun Y hY=>aa ?_ | refine ar fun K' hK'=>aa ?_ | refine ae tk0 cb (ab fun Y hY=>aa ?_) | refine aa ?_ | refine ao ?_);(try clear hK' K');(try dsimp only [aop]);try simp only [go_sem,↓reduceIte,Nat.reduceEqDiff,Nat.reduceLT,Nat.reduceLeDiff,Nat.reduceAdd,Nat.reduceSub,Nat.reduceMul,Nat.reduceBEq,Nat.reduceBNe,Nat.reducePow,Int.reduceToNat,Int.reduceLE,Int.reduceLT,Int.reduceMul,Int.reduceEq,Int.reducePow,Int.reduceAdd,Int.reduceSub,Int.reduceNeg,reduceCtorEq,cb,Tryz.results79,h1',h2']) | (with_reducible first | refine af ?_ | refine bh rfl ?_ | refine aL ?_ | refine cS ?_ ?_ | refine ai ?_ | refine aj ?_ | refine ay fun K hK=>?_ | refine au ?_) | (with_reducible refine hK _ ?_;clear hK K) | ((with_reducible refine aG ?_ ?_);(· decide)))
 have h2' : ((n : Int) < z) = False:=eq_false h2
 rw [decide_eq_false h2,Bool.false_or]
 by_cases h3 : z < -(n : Int)
 ·have h3' : (z < -(n : Int)) = True:=eq_true h3
  rw [decide_eq_true h3]
  refine aD [] Tryz.func79 rfl Tryz.ntmps79 (Nat.le_of_ble_eq_true rfl) (Nat.le_of_ble_eq_true rfl) fun w0 G0 B0 Pr hB0=>?_
  simp only [aO,aA,List.cons_append,List.nil_append]
  repeat' (first | (with_reducible refine hY _ ?_;clear hY Y) | ((with_reducible first | refine an rfl (ar fun K' hK'=>aa ?_) | refine hK' _ (ab fun Y hY=>aa ?_) | refine bl rfl (ab fun Y hY=>aa ?_) | refine ab fun Y hY=>aa ?_ | refine ar fun K' hK'=>aa ?_ | refine ae tk0 cb (ab fun Y hY=>aa ?_) | refine aa ?_ | refine ao ?_);(try clear hK' K');(try dsimp only [aop]);try simp only [go_sem,↓reduceIte,Nat.reduceEqDiff,Nat.reduceLT,Nat.reduceLeDiff,Nat.reduceAdd,Nat.reduceSub,Nat.reduceMul,Nat.reduceBEq,Nat.reduceBNe,Nat.reducePow,Int.reduceToNat,Int.reduceLE,Int.reduceLT,Int.reduceMul,Int.reduceEq,Int.reducePow,Int.reduceAdd,Int.reduceSub,Int.reduceNeg,reduceCtorEq,cb,Tryz.results79,h1',h2',h3',hwn,hwn2]) | (with_reducible first | refine af ?_ | refine aL ?_ | refine ai ?_ | refine aj ?_ | refine ay fun K hK=>?_ | refine au ?_) | (with_reducible refine hK _ ?_;clear hK K) | ((with_reducible refine aG ?_ ?_);(· decide)))
 ·have h3' : (z < -(n : Int)) = False:=eq_false h3
  rw [decide_eq_false h3]
  refine aD [] Tryz.func79 rfl Tryz.ntmps79 (Nat.le_of_ble_eq_true rfl) (Nat.le_of_ble_eq_true rfl) fun w0 G0 B0 Pr hB0=>?_
  simp only [aO,aA,List.cons_append,List.nil_append]
  repeat' (first | (with_reducible refine hY _ ?_;clear hY Y) | ((with_reducible first | refine an rfl (ar fun K' hK'=>aa ?_) | refine hK' _ (ab fun Y hY=>aa ?_) | refine bl rfl (ab fun Y hY=>aa ?_) | refine ab fun Y hY=>aa ?_ | refine ar fun K' hK'=>aa ?_ | refine ae tk0 cb (ab fun Y hY=>aa ?_) | refine aa ?_ | refine ao ?_);(try clear hK' K');(try dsimp only [aop]);try simp only [go_sem,↓reduceIte,Nat.reduceEqDiff,Nat.reduceLT,Nat.reduceLeDiff,Nat.reduceAdd,Nat.reduceSub,Nat.reduceMul,Nat.reduceBEq,Nat.reduceBNe,Nat.reducePow,Int.reduceToNat,Int.reduceLE,Int.reduceLT,Int.reduceMul,Int.reduceEq,Int.reducePow,Int.reduceAdd,Int.reduceSub,Int.reduceNeg,reduceCtorEq,cb,Tryz.results79,h1',h2',h3',hwn,hwn2]) | (with_reducible first | refine af ?_ | refine aL ?_ | refine ai ?_ | refine aj ?_ | refine ay fun K hK=>?_ | refine au ?_) | (with_reducible refine hK _ ?_;clear hK K) | ((with_reducible refine aG ?_ ?_);(· decide)))
theorem tK : mV (5,[]) (b9 ((5,[]) : Nat × List Ln).1) = .tup [.sl [] 0 .full,.ifc 50 (.c (.int .i64 5))]:=rfl
theorem y6 : mV (3,[]) (b9 ((3,[]) : Nat × List Ln).1) = .tup [.sl [] 0 .full,.ifc 50 (.c (.int .i64 3))]:=rfl
theorem y5 (l : List Ln) : mV (0,l) (b9 ((0,l) : Nat × List Ln).1) = .tup [.sl (l.flatMap lnA) l.length .none,.c .nilIface]:=rfl
end Go.Proofs.YtmpdocplcgbpkaaGreatDoor
namespace Go.Proofs.YtmpdocplcgbpkaaGreatDoor
set_option linter.unusedSimpArgs false
set_option linter.unusedVariables false
open Go.RowKit
def bB : Nat→List Nat
 | 0=>[0,1]
 | 1=>[0,1]
 | 2=>[0,1,6]
 | 3=>[]
 | 4=>[0,1]
 | 5=>[0,1,7]
 | 6=>[0,7,23,24,25]
 | 7=>[0,7,23,24,25]
 | 8=>[0,7,9,23,24,25]
 | 9=>[0,7,9,23,24,25]
 | 10=>[0,7,10,23,24,25]
 | 11=>[0,7,9,23,24,25]
 | 12=>[0,7,11,12,23,24,25]
 | 13=>[]
 | 14=>[0,7,11,23,24,25]
 | 15=>[0,7,23,24,25]
 | 16=>[7]
 | _=>[]
set_option maxRecDepth 100000 in
set_option maxHeartbeats 16000000 in
theorem sH (ls : List Ln) (zs : List Int) (hl : ls.length≤100000) (hz : zs.length≤100000) (q : Nat × List Ln) (hq : q = gG ls zs) :
  AFn Tryz.prog 39 [gB ls,zsA zs] [] (mV q (b9 q.1)) []:=by
 have hh1:=ya ls 77 (fun l=>!cY l) qG (by unfold Lg;omega) fun y _=>yY y
 have hh2:=sg zs 79 (ls.length : Int) (ml ls.length) qH (by unfold Lg;omega) fun y _=>yZ ls.length y (by omega)
 have hp1:=qG
 have hp2:=qH
 unfold gG at hq
 cases hA : ls.any (fun l=>!cY l) with
 | true =>
  rw [hA] at hh1 hq
  obtain rfl : q = (5,[]):=hq
  rw [tK]
  clear hA
  refine aD [] Tryz.func39 rfl Tryz.ntmps39 (Nat.le_of_ble_eq_true rfl) (Nat.le_of_ble_eq_true rfl) fun w0 G0 B0 Pr hB0=>?_
  simp only [aO,aA,List.cons_append,List.nil_append]
  repeat' (first | (with_reducible refine hY _ ?_;clear hY Y) | ((with_reducible first | refine an rfl (ar fun K' hK'=>aa ?_) | refine hK' _ (ab fun Y hY=>aa ?_) | refine bl rfl (ab fun Y hY=>aa ?_) | refine ab fun Y hY=>aa ?_ | refine ae tk0 bB (ab fun Y hY=>aa ?_) | refine aa ?_ | refine ao ?_);(try clear hK' K');(try dsimp only [aop]);try simp only [go_sem,↓reduceIte,Nat.reduceEqDiff,Nat.reduceLT,Nat.reduceLeDiff,Nat.reduceAdd,Nat.reduceSub,Nat.reduceMul,Nat.reduceBEq,Nat.reduceBNe,Nat.reducePow,Int.reduceToNat,Int.reduceLE,Int.reduceLT,Int.reduceMul,Int.reduceEq,Int.reducePow,Int.reduceAdd,Int.reduceSub,Int.reduceNeg,reduceCtorEq,bB,Tryz.results39,hp1]) | (with_reducible first | refine af ?_ | refine bh rfl ?_ | refine cS ?_ ?_ | refine ai ?_ | refine aj ?_ | refine ay fun K hK=>?_ | refine ap ?_ | refine aS ?_ | refine au ?_) | (with_reducible refine hK _ ?_;clear hK K) | ((with_reducible first | refine aG ?_ ?_ | refine ag ?_ ?_);(· decide)) | (with_reducible refine ah (hh1) ?_))
 | false =>
 rw [hA,if_neg (by decide)] at hq
 rw [hA] at hh1
 cases hB : zs.any (ml ls.length) with
 | true =>
  rw [hB] at hh2 hq
  obtain rfl : q = (5,[]):=hq
  rw [tK]
  clear hA hB
  refine aD [] Tryz.func39 rfl Tryz.ntmps39 (Nat.le_of_ble_eq_true rfl) (Nat.le_of_ble_eq_true rfl) fun w0 G0 B0 Pr hB0=>?_
  simp only [aO,aA,List.cons_append,List.nil_append]
  repeat' (first | (with_reducible refine hY _ ?_;clear hY Y) | ((with_reducible first | refine an rfl (ar fun K' hK'=>aa ?_) | refine hK' _ (ab fun Y hY=>aa ?_) | refine bl rfl (ab fun Y hY=>aa ?_) | refine ab fun Y hY=>aa ?_ | refine ar fun K' hK'=>aa ?_ | refine ae tk0 bB (ab fun Y hY=>aa ?_) | refine aa ?_ | refine ao ?_);(try clear hK' K');(try dsimp only [aop]);try simp only [go_sem,↓reduceIte,Nat.reduceEqDiff,Nat.reduceLT,Nat.reduceLeDiff,Nat.reduceAdd,Nat.reduceSub,Nat.reduceMul,Nat.reduceBEq,Nat.reduceBNe,Nat.reducePow,Int.reduceToNat,Int.reduceLE,Int.reduceLT,Int.reduceMul,Int.reduceEq,Int.reducePow,Int.reduceAdd,Int.reduceSub,Int.reduceNeg,reduceCtorEq,bB,Tryz.results39,hp1,hp2]) | (with_reducible first | refine af ?_ | refine aL ?_ | refine ai ?_ | refine aj ?_ | refine ay fun K hK=>?_ | refine ap ?_ | refine aS ?_ | refine au ?_) | (with_reducible refine hK _ ?_;clear hK K) | ((with_reducible first | refine aG ?_ ?_ | refine ag ?_ ?_);(· decide)) | (with_reducible refine ah (hh1) ?_) | (with_reducible refine ah (hh2) ?_))
 | false =>
 rw [hB,if_neg (by decide)] at hq
 rw [hB] at hh2
 have hlin : ∀ l ∈ ls,cY l = true:=fun l hl=>by
  have:=List.any_eq_false.1 hA l hl
  simpa using this
 have hbad : ∀ j (hj : j < zs.length),ml ls.length zs[j] = false:=fun j hj=>by
  have:=List.any_eq_false.1 hB zs[j] (List.getElem_mem hj)
  simpa using this
 have hq2 : q = iv ls (zs.drop 0) []:=hq
 clear hq hA hB
 refine aD [] Tryz.func39 rfl Tryz.ntmps39 (Nat.le_of_ble_eq_true rfl) (Nat.le_of_ble_eq_true rfl) fun w0 G0 B0 Pr hB0=>?_
 simp only [aO,aA,List.cons_append,List.nil_append]
 repeat' (first | (with_reducible refine hY _ ?_;clear hY Y) | ((with_reducible first | refine an rfl (ar fun K' hK'=>aa ?_) | refine hK' _ (ab fun Y hY=>aa ?_) | refine bl rfl (ab fun Y hY=>aa ?_) | refine ab fun Y hY=>aa ?_ | refine ar fun K' hK'=>aa ?_ | refine ae tk0 bB (ab fun Y hY=>aa ?_) | refine aa ?_);(try clear hK' K');(try dsimp only [aop]);try simp only [go_sem,↓reduceIte,Nat.reduceEqDiff,Nat.reduceLT,Nat.reduceLeDiff,Nat.reduceAdd,Nat.reduceSub,Nat.reduceMul,Nat.reduceBEq,Nat.reduceBNe,Nat.reducePow,Int.reduceToNat,Int.reduceLE,Int.reduceLT,Int.reduceMul,Int.reduceEq,Int.reducePow,Int.reduceAdd,Int.reduceSub,Int.reduceNeg,reduceCtorEq,bB,Tryz.results39,hp1,hp2]) | (with_reducible first | refine af ?_ | refine aL ?_ | refine ai ?_ | refine aj ?_ | refine ay fun K hK=>?_ | refine aq ?_ | refine al ?_ | refine av ?_ | refine bG ?_) | (with_reducible refine hK _ ?_;clear hK K) | ((with_reducible first | refine aG ?_ ?_ | refine ag ?_ ?_);(· decide)) | (with_reducible refine ah (hh1) ?_) | (with_reducible refine ah (hh2) ?_))
 clear hh1 hh2 hp1 hp2
 refine eu (gp (b:=10045) (t:=7) 24 (by decide) (by decide) rfl rfl) ?_
 refine bK (α:=Nat × List Ln) (fun a=>[(0,gB ls),(7,.sl (a.2.flatMap lnA) a.1 (.tok 10045)),(23,zsA zs),(24,inA (zs.length : Int)),(25,inA (a.1 : Int)),(10045,.bt a.1 24)])
  (fun a=>a.1≤zs.length∧a.2.length = a.1∧q = iv ls (zs.drop a.1) a.2) (fun a=>zs.length - a.1) (0,[]) [0,7,23,24,25] ?_ ⟨Nat.zero_le _,rfl,hq2⟩ ?_
 ·simp only [go_sem,↓reduceIte,Nat.reduceEqDiff,Nat.reduceLT,Nat.reduceLeDiff,Nat.reduceAdd,Nat.reduceSub,Nat.reduceMul,Nat.reduceBEq,Nat.reduceBNe,Nat.reducePow,Int.reduceToNat,Int.reduceLE,Int.reduceLT,Int.reduceMul,Int.reduceEq,Int.reducePow,Int.reduceAdd,Int.reduceSub,Int.reduceNeg,reduceCtorEq] <;> rfl
 clear hq2
 rintro ⟨k,out⟩ ⟨hk,hol,hqk⟩ ih
 simp only at hk hol hqk ih ⊢
 by_cases hlt : k < zs.length
 ·have hlt' : ((k : Int) < (zs.length : Int)) = True:=eq_true (by omega)
  have hkw:=cf (n:=k) (by omega)
  have hg0:=BK hlt
  have hfl : (zs.map inA).length = zs.length:=List.length_map ..
  have hfl2:=ei ls
  have hol2 : (out.flatMap lnA).length = k * 2:=by rw [ei,hol]
  obtain ⟨i,hi,hai,hiz⟩:=oN (hbad k hlt)
  have hli:=hlin _ (List.getElem_mem hi)
  obtain ⟨⟨c1,c2⟩,h64,_⟩:=ef hli
  have hga:=jo hi
  have hil : ((i : Int) < (ls.length : Int)) = True:=eq_true (by omega)
  have hz0:=(oO (hbad k hlt)).1
  rw [sG ls hlt] at hqk
  have ihx:=fun o e1 e2=>ih (k + 1,o) ⟨by simp only;omega,e1,e2⟩ (by simp only;omega)
  clear ih
  by_cases hneg : zs[k] < 0
  ·have hneg' : (zs[k] < 0) = True:=eq_true hneg
   rw [if_pos hneg] at hiz
   have hw1 : IntKind.i64.wrap (0 - zs[k]) = ((i + 1 : Nat) : Int):=by rw [aY (by omega) (by omega)];omega
   have hw1' : IntKind.i64.wrap (-zs[k]) = ((i + 1 : Nat) : Int):=by rw [aY (by omega) (by omega)];omega
   have hw2 : IntKind.i64.wrap (((i + 1 : Nat) : Int) - 1) = (i : Int):=by rw [aY (by omega) (by omega)];omega
   have hcl:=kq ls[i].t .none (.inl rfl) (by omega)
   have h1 : jr ls zs[k] = (0,ls[i]):=by unfold jr;rw [if_pos hneg,hai]
   rw [h1,if_pos rfl] at hqk
   have ih':=ihx (out ++ [ls[i]]) (by simp only [List.length_append,List.length_cons,List.length_nil];omega) hqk
   simp only [qz] at ih'
   clear ihx hqk hai h1 hbad hlin hli
   generalize zs[k] = z at *
   generalize ls[i] = l at *
   generalize out.flatMap lnA = O at *
   repeat' (first | (with_reducible refine hY _ ?_;clear hY Y) | ((with_reducible first | refine an rfl (ar fun K' hK'=>aa ?_) | refine hK' _ (ab fun Y hY=>aa ?_) | refine ab fun Y hY=>aa ?_ | refine ae tk0 bB (ab fun Y hY=>aa ?_) | refine aa ?_ | refine cV rfl (cT fun K' hK'=>aa ?_) | refine hK' _ _ (ab fun Y hY=>aa ?_));(try clear hK' K');(try dsimp only [aop]);try simp only [go_sem,↓reduceIte,Nat.reduceEqDiff,Nat.reduceLT,Nat.reduceLeDiff,Nat.reduceAdd,Nat.reduceSub,Nat.reduceMul,Nat.reduceBEq,Nat.reduceBNe,Nat.reducePow,Int.reduceToNat,Int.reduceLE,Int.reduceLT,Int.reduceMul,Int.reduceEq,Int.reducePow,Int.reduceAdd,Int.reduceSub,Int.reduceNeg,reduceCtorEq,bB,Tryz.results39,hlt',hfl,hfl2,hg0,hga,hkw,hneg',hw1,hw1',hw2,hol2,hil]) | (with_reducible first | refine af ?_ | refine ai ?_ | refine aj ?_ | refine ay fun K hK=>?_ | refine ap ?_ | refine bC ?_ | refine bg ?_ | refine al ?_ | refine av ?_ | refine bf ?_ | refine ch ?_ | refine eN fun K hK=>?_) | (with_reducible refine hK _ ?_;clear hK K) | (with_reducible refine hK _ _ ?_ ?_;(· kernel_rfl);clear hK K) | ((with_reducible refine ag ?_ ?_);(· decide)) | (with_reducible refine cg tk0 bB ?_ ?_;(· kernel_rfl)) | (with_reducible refine bp ?_ ?_;(· (try and_intros) <;> first | omega | assumption | (simp only [List.length_append,List.length_map,List.length_cons,List.length_nil] <;> omega))) | (with_reducible refine ah (hcl) ?_))
   refine bi [0,7,23,24,25] (by simp only [go_sem,↓reduceIte,Nat.reduceEqDiff,Nat.reduceLT,Nat.reduceLeDiff,Nat.reduceAdd,Nat.reduceSub,Nat.reduceMul,Nat.reduceBEq,Nat.reduceBNe,Nat.reducePow,Int.reduceToNat,Int.reduceLE,Int.reduceLT,Int.reduceMul,Int.reduceEq,Int.reducePow,Int.reduceAdd,Int.reduceSub,Int.reduceNeg,reduceCtorEq];exact rfl) ?_
   exact ih'
  ·have hneg' : (zs[k] < 0) = False:=eq_false hneg
   rw [if_neg hneg] at hiz
   have hw2 : IntKind.i64.wrap (zs[k] - 1) = (i : Int):=by rw [aY (by omega) (by omega)];omega
   have had:=vC ls[i] 1 1 (by decide) rfl hli
   cases hcc : cX (1 - ls[i].c) with
   | true =>
    have h1 : jr ls zs[k] = (0,⟨1 - ls[i].c,cz (-1) ls[i].t⟩):=by unfold jr;rw [if_neg hneg,hai,if_pos hcc]
    rw [h1,if_pos rfl] at hqk
    have had':=had (0,⟨1 - ls[i].c,cz (-1) ls[i].t⟩) (by rw [if_pos hcc])
    rw [iU] at had'
    have ih':=ihx (out ++ [⟨1 - ls[i].c,cz (-1) ls[i].t⟩]) (by simp only [List.length_append,List.length_cons,List.length_nil];omega) hqk
    simp only [qz] at ih'
    clear ihx hqk hai h1 hbad hlin hli hcc had
    generalize zs[k] = z at *
    generalize ls[i] = l at *
    generalize out.flatMap lnA = O at *
    repeat' (first | (with_reducible refine hY _ ?_;clear hY Y) | ((with_reducible first | refine an rfl (ar fun K' hK'=>aa ?_) | refine hK' _ (ab fun Y hY=>aa ?_) | refine ab fun Y hY=>aa ?_ | refine ae tk0 bB (ab fun Y hY=>aa ?_) | refine aa ?_);(try clear hK' K');(try dsimp only [aop]);try simp only [go_sem,↓reduceIte,Nat.reduceEqDiff,Nat.reduceLT,Nat.reduceLeDiff,Nat.reduceAdd,Nat.reduceSub,Nat.reduceMul,Nat.reduceBEq,Nat.reduceBNe,Nat.reducePow,Int.reduceToNat,Int.reduceLE,Int.reduceLT,Int.reduceMul,Int.reduceEq,Int.reducePow,Int.reduceAdd,Int.reduceSub,Int.reduceNeg,reduceCtorEq,bB,Tryz.results39,hlt',hfl,hfl2,hg0,hga,hkw,hneg',hw2,hol2,hil]) | (with_reducible first | refine af ?_ | refine ai ?_ | refine aj ?_ | refine ay fun K hK=>?_ | refine ap ?_ | refine aq ?_ | refine aU ?_ | refine al ?_ | refine av ?_) | (with_reducible refine hK _ ?_;clear hK K) | ((with_reducible refine ag ?_ ?_);(· decide)) | (with_reducible refine bp ?_ ?_;(· (try and_intros) <;> first | omega | assumption | (simp only [List.length_append,List.length_map,List.length_cons,List.length_nil] <;> omega))) | (with_reducible refine ah (had') ?_) | (with_reducible refine ce (cr) ?_))
    refine bi [0,7,23,24,25] (by simp only [go_sem,↓reduceIte,Nat.reduceEqDiff,Nat.reduceLT,Nat.reduceLeDiff,Nat.reduceAdd,Nat.reduceSub,Nat.reduceMul,Nat.reduceBEq,Nat.reduceBNe,Nat.reducePow,Int.reduceToNat,Int.reduceLE,Int.reduceLT,Int.reduceMul,Int.reduceEq,Int.reducePow,Int.reduceAdd,Int.reduceSub,Int.reduceNeg,reduceCtorEq];exact rfl) ?_
    exact ih'
   | false =>
    have h1 : jr ls zs[k] = (3,⟨0,[]⟩):=by unfold jr;rw [if_neg hneg,hai,if_neg (by rw [hcc];decide)]
    rw [h1,if_neg (by decide)] at hqk
    subst hqk
    rw [y6]
    have had':=had (3,⟨0,[]⟩) (by rw [hcc];rfl)
    rw [ke] at had'
    clear ihx hai h1 hbad hlin hli hcc had
    generalize zs[k] = z at *
    generalize ls[i] = l at *
    generalize out.flatMap lnA = O at *
    repeat' (first | (with_reducible refine hY _ ?_;clear hY Y) | ((with_reducible first | refine an rfl (ar fun K' hK'=>aa ?_) | refine hK' _ (ab fun Y hY=>aa ?_) | refine ab fun Y hY=>aa ?_ | refine ae tk0 bB (ab fun Y hY=>aa ?_) | refine aa ?_ | refine ao ?_);(try clear hK' K');(try dsimp only [aop]);try simp only [go_sem,↓reduceIte,Nat.reduceEqDiff,Nat.reduceLT,Nat.reduceLeDiff,Nat.reduceAdd,Nat.reduceSub,Nat.reduceMul,Nat.reduceBEq,Nat.reduceBNe,Nat.reducePow,Int.reduceToNat,Int.reduceLE,Int.reduceLT,Int.reduceMul,Int.reduceEq,Int.reducePow,Int.reduceAdd,Int.reduceSub,Int.reduceNeg,reduceCtorEq,bB,Tryz.results39,hlt',hfl,hfl2,hg0,hga,hkw,hneg',hw2,hol2,hil]) | (with_reducible first | refine af ?_ | refine ai ?_ | refine aj ?_ | refine ay fun K hK=>?_ | refine ap ?_ | refine aq ?_ | refine aS ?_ | refine bb ?_ | refine al ?_ | refine av ?_ | refine au ?_) | (with_reducible refine hK _ ?_;clear hK K) | ((with_reducible refine ag ?_ ?_);(· decide)) | (with_reducible refine bp ?_ ?_;(· (try and_intros) <;> first | omega | assumption | (simp only [List.length_append,List.length_map,List.length_cons,List.length_nil] <;> omega))) | (with_reducible refine ah (had') ?_))
 ·have hlt' : ((k : Int) < (zs.length : Int)) = False:=eq_false (by omega)
  obtain rfl : q = (0,out):=by rw [hqk,List.drop_eq_nil_of_le (by omega)];rfl
  rw [y5]
  clear ih hqk hbad hlin
  rw [← hol]
  repeat' (first | (with_reducible refine hY _ ?_;clear hY Y) | ((with_reducible first | refine an rfl (ar fun K' hK'=>aa ?_) | refine hK' _ (ab fun Y hY=>aa ?_) | refine ab fun Y hY=>aa ?_ | refine ae tk0 bB (ab fun Y hY=>aa ?_) | refine aa ?_ | refine ao ?_);(try clear hK' K');(try dsimp only [aop]);try simp only [go_sem,↓reduceIte,Nat.reduceEqDiff,Nat.reduceLT,Nat.reduceLeDiff,Nat.reduceAdd,Nat.reduceSub,Nat.reduceMul,Nat.reduceBEq,Nat.reduceBNe,Nat.reducePow,Int.reduceToNat,Int.reduceLE,Int.reduceLT,Int.reduceMul,Int.reduceEq,Int.reducePow,Int.reduceAdd,Int.reduceSub,Int.reduceNeg,reduceCtorEq,bB,Tryz.results39,hlt']) | (with_reducible first | refine af ?_ | refine ai ?_ | refine aj ?_ | refine ay fun K hK=>?_ | refine bC ?_ | refine bg ?_ | refine au ?_ | refine bf ?_) | (with_reducible refine hK _ ?_;clear hK K) | ((with_reducible refine ag ?_ ?_);(· decide)) | ((with_reducible refine gM (fun hc=>?_) (fun hc=>?_)) <;> (try simp only [decide_eq_true_eq,decide_eq_false_iff_not,Bool.not_true,Bool.not_false,Bool.not_eq_true',Bool.not_eq_false'] at hc) <;> (try (exfalso;omega))))
end Go.Proofs.YtmpdocplcgbpkaaGreatDoor
namespace Go.Proofs.YtmpdocplcgbpkaaGreatDoor
set_option linter.unusedSimpArgs false
set_option linter.unusedVariables false
open Go.RowKit
abbrev mC (l : Lem) : List AV:=[dr l.lits,kN l.steps]
abbrev mD (ls : List Lem) : AV:=.sl (ls.flatMap mC) ls.length .none
theorem qu (ls : List Lem) : (ls.flatMap mC).length = ls.length * 2:=kY (f:=mC) (k:=2) (fun _=>rfl) ls
theorem yJ {ls : List Lem} {i : Nat} (h : i < ls.length) : ((ls.flatMap mC).drop (i * 2)).take 2 = [dr ls[i].lits,kN ls[i].steps]:=lE (f:=mC) (fun _=>rfl) h
def cB : Nat→List Nat
 | 0=>[0,1]
 | 1=>[0,3]
 | 2=>[3,5,6]
 | 3=>[3,5]
 | 4=>[6]
 | 5=>[6,7]
 | 6=>[7]
 | 7=>[6]
 | _=>[]
set_option maxRecDepth 100000 in
set_option maxHeartbeats 16000000 in
theorem yI (ls : List Ln) (l : Lem) (hl : ls.length≤100000) (hz : l.lits.length≤100000) (hss : pW l.steps) :
  AFn Tryz.prog 19 [gB ls,.agg (mC l)] [] (b9 (pr ls l)) []:=by
 obtain ⟨zs,ss⟩:=l
 simp only at hz hss
 have hp:=sH ls zs hl hz _ rfl
 have hok:=y7 (ls:=ls) hz
 unfold pr
 simp only
 generalize gG ls zs = q at *
 obtain ⟨e,ps⟩:=q
 simp only at hp hok ⊢
 have hr:=uT ps ss hok hss
 by_cases he : e = 0
 ·subst he
  rw [if_neg (by decide)]
  rw [y3,cR] at hp
  generalize gf ps ss = r at *
  obtain ⟨e2,z⟩:=r
  simp only at hr ⊢
  unfold eA at hr
  split at hr
  ·have has:=p7 e2
   by_cases h2 : e2 = 0
   ·subst h2
    rw [cR] at hr has ⊢
    refine aD [] Tryz.func19 rfl Tryz.ntmps19 (Nat.le_of_ble_eq_true rfl) (Nat.le_of_ble_eq_true rfl) fun w0 G0 B0 Pr hB0=>?_
    simp only [aO,aA,List.cons_append,List.nil_append]
    repeat' (first | (with_reducible refine hY _ ?_;clear hY Y) | ((with_reducible first | refine an rfl (ar fun K' hK'=>aa ?_) | refine hK' _ (ab fun Y hY=>aa ?_) | refine ab fun Y hY=>aa ?_ | refine ae tk0 cB (ab fun Y hY=>aa ?_) | refine aa ?_ | refine ao ?_);(try clear hK' K');(try dsimp only [aop]);try simp only [go_sem,↓reduceIte,Nat.reduceEqDiff,Nat.reduceLT,Nat.reduceLeDiff,Nat.reduceAdd,Nat.reduceSub,Nat.reduceMul,Nat.reduceBEq,Nat.reduceBNe,Nat.reducePow,Int.reduceToNat,Int.reduceLE,Int.reduceLT,Int.reduceMul,Int.reduceEq,Int.reducePow,Int.reduceAdd,Int.reduceSub,Int.reduceNeg,reduceCtorEq,cB,Tryz.results19]) | (with_reducible first | refine af ?_ | refine ai ?_ | refine aj ?_ | refine ay fun K hK=>?_ | refine ap ?_ | refine aq ?_ | refine av ?_ | refine au ?_) | (with_reducible refine hK _ ?_;clear hK K) | ((with_reducible refine ag ?_ ?_);(· decide)) | (with_reducible refine ah (hp) ?_) | (with_reducible refine ah (hr) ?_) | (with_reducible refine ce (dM) ?_) | (with_reducible refine ah (has) ?_))
   ·rw [cK h2] at hr has ⊢
    refine aD [] Tryz.func19 rfl Tryz.ntmps19 (Nat.le_of_ble_eq_true rfl) (Nat.le_of_ble_eq_true rfl) fun w0 G0 B0 Pr hB0=>?_
    simp only [aO,aA,List.cons_append,List.nil_append]
    repeat' (first | (with_reducible refine hY _ ?_;clear hY Y) | ((with_reducible first | refine an rfl (ar fun K' hK'=>aa ?_) | refine hK' _ (ab fun Y hY=>aa ?_) | refine ab fun Y hY=>aa ?_ | refine ae tk0 cB (ab fun Y hY=>aa ?_) | refine aa ?_ | refine ao ?_);(try clear hK' K');(try dsimp only [aop]);try simp only [go_sem,↓reduceIte,Nat.reduceEqDiff,Nat.reduceLT,Nat.reduceLeDiff,Nat.reduceAdd,Nat.reduceSub,Nat.reduceMul,Nat.reduceBEq,Nat.reduceBNe,Nat.reducePow,Int.reduceToNat,Int.reduceLE,Int.reduceLT,Int.reduceMul,Int.reduceEq,Int.reducePow,Int.reduceAdd,Int.reduceSub,Int.reduceNeg,reduceCtorEq,cB,Tryz.results19]) | (with_reducible first | refine af ?_ | refine ai ?_ | refine aj ?_ | refine ay fun K hK=>?_ | refine ap ?_ | refine aq ?_ | refine av ?_ | refine au ?_) | (with_reducible refine hK _ ?_;clear hK K) | ((with_reducible refine ag ?_ ?_);(· decide)) | (with_reducible refine ah (hp) ?_) | (with_reducible refine ah (hr) ?_) | (with_reducible refine ce (dM) ?_) | (with_reducible refine ah (has) ?_))
  ·rename_i h2
   have h2' : e2 ≠ 0:=fun h=>h2 (.inr h)
   have has:=vG z e2
   unfold iy at hr has
   rw [cK h2'] at hr has ⊢
   refine aD [] Tryz.func19 rfl Tryz.ntmps19 (Nat.le_of_ble_eq_true rfl) (Nat.le_of_ble_eq_true rfl) fun w0 G0 B0 Pr hB0=>?_
   simp only [aO,aA,List.cons_append,List.nil_append]
   repeat' (first | (with_reducible refine hY _ ?_;clear hY Y) | ((with_reducible first | refine an rfl (ar fun K' hK'=>aa ?_) | refine hK' _ (ab fun Y hY=>aa ?_) | refine ab fun Y hY=>aa ?_ | refine ae tk0 cB (ab fun Y hY=>aa ?_) | refine aa ?_ | refine ao ?_);(try clear hK' K');(try dsimp only [aop]);try simp only [go_sem,↓reduceIte,Nat.reduceEqDiff,Nat.reduceLT,Nat.reduceLeDiff,Nat.reduceAdd,Nat.reduceSub,Nat.reduceMul,Nat.reduceBEq,Nat.reduceBNe,Nat.reducePow,Int.reduceToNat,Int.reduceLE,Int.reduceLT,Int.reduceMul,Int.reduceEq,Int.reducePow,Int.reduceAdd,Int.reduceSub,Int.reduceNeg,reduceCtorEq,cB,Tryz.results19]) | (with_reducible first | refine af ?_ | refine ai ?_ | refine aj ?_ | refine ay fun K hK=>?_ | refine ap ?_ | refine aS ?_ | refine au ?_) | (with_reducible refine hK _ ?_;clear hK K) | ((with_reducible refine ag ?_ ?_);(· decide)) | (with_reducible refine ah (hp) ?_) | (with_reducible refine ah (hr) ?_) | (with_reducible refine ce (dM) ?_) | (with_reducible refine ah (has) ?_))
 ·rw [if_pos he]
  rw [y4 he] at hp
  have has:=p7 e
  rw [cK he] at hp has ⊢
  refine aD [] Tryz.func19 rfl Tryz.ntmps19 (Nat.le_of_ble_eq_true rfl) (Nat.le_of_ble_eq_true rfl) fun w0 G0 B0 Pr hB0=>?_
  simp only [aO,aA,List.cons_append,List.nil_append]
  repeat' (first | (with_reducible refine hY _ ?_;clear hY Y) | ((with_reducible first | refine an rfl (ar fun K' hK'=>aa ?_) | refine hK' _ (ab fun Y hY=>aa ?_) | refine ab fun Y hY=>aa ?_ | refine ae tk0 cB (ab fun Y hY=>aa ?_) | refine aa ?_ | refine ao ?_);(try clear hK' K');(try dsimp only [aop]);try simp only [go_sem,↓reduceIte,Nat.reduceEqDiff,Nat.reduceLT,Nat.reduceLeDiff,Nat.reduceAdd,Nat.reduceSub,Nat.reduceMul,Nat.reduceBEq,Nat.reduceBNe,Nat.reducePow,Int.reduceToNat,Int.reduceLE,Int.reduceLT,Int.reduceMul,Int.reduceEq,Int.reducePow,Int.reduceAdd,Int.reduceSub,Int.reduceNeg,reduceCtorEq,cB,Tryz.results19]) | (with_reducible first | refine af ?_ | refine ai ?_ | refine aj ?_ | refine ay fun K hK=>?_ | refine aq ?_ | refine av ?_ | refine au ?_) | (with_reducible refine hK _ ?_;clear hK K) | ((with_reducible refine ag ?_ ?_);(· decide)) | (with_reducible refine ah (hp) ?_) | (with_reducible refine ah (has) ?_))
end Go.Proofs.YtmpdocplcgbpkaaGreatDoor
