/- lin.Add in K, of a sound form and a constant: a sort of terms that stand in order. slices.SortStableFunc in K, of terms that stand in order already: nothing is written. -/
import Derived.Test.YtmpdocplcgbpkaaGreatDoorZ16
import Derived.Test.YtmpdocplcgbpkaaGreatDoorZ10
namespace Go.Proofs.YtmpdocplcgbpkaaGreatDoor
set_option linter.unusedSimpArgs false
set_option linter.unusedVariables false
open Go.RowKit
def oH (t : List Tm) : Prop:=(∀ (i j : Nat) (hi : i < t.length) (hj : j < t.length),i < j→t[i].1 < t[j].1)∧∀ (i : Nat) (hi : i < t.length),0≤t[i].1∧t[i].1 < 1048576
abbrev jc : AV:=.fn (.func 122) [] []
theorem lU : aM Tryz.prog 122 = true:=by kernel_rfl
theorem eK {a b : Nat} (h : a + b≤140737488351232) : IntKind.i64.wrap ((a : Int) + (b : Int)) = ((a + b : Nat) : Int):=by rw [aY (by omega) (by omega)];omega
theorem fd {a b : Nat} (h : b≤a) (h2 : a≤140737488351232) : IntKind.i64.wrap ((a : Int) - (b : Int)) = ((a - b : Nat) : Int):=by rw [aY (by omega) (by omega)];omega
def f9 : Nat→List Nat
 | 0=>[0,1]
 | 1=>[2,3]
 | _=>[]
set_option maxRecDepth 100000 in
theorem qe (p q : Tm) (hp : 0≤p.1∧p.1 < 1048576) (hq : 0≤q.1∧q.1 < 1048576) : AFn Tryz.prog 122 [.agg (tmA p),.agg (tmA q)] [] (inA (p.1 - q.1)) []:=by
 obtain ⟨p,x⟩:=p
 obtain ⟨q,y⟩:=q
 simp only at hp hq
 have hw : IntKind.i64.wrap (p - q) = p - q:=aY (by omega) (by omega)
 refine aD [] Tryz.func122 rfl Tryz.ntmps122 (Nat.le_of_ble_eq_true rfl) (Nat.le_of_ble_eq_true rfl) fun w0 G0 B0 Pr hB0=>?_
 simp only [aO,aA,List.cons_append,List.nil_append]
 repeat' (first | (with_reducible refine hY _ ?_;clear hY Y) | ((with_reducible first | refine an rfl (ar fun K' hK'=>aa ?_) | refine hK' _ (ab fun Y hY=>aa ?_) | refine ae tk0 f9 (ab fun Y hY=>aa ?_) | refine aa ?_ | refine ao ?_);(try clear hK' K');(try dsimp only [aop]);try simp only [go_sem,↓reduceIte,Nat.reduceEqDiff,Nat.reduceLT,Nat.reduceLeDiff,Nat.reduceAdd,Nat.reduceSub,Nat.reduceMul,Nat.reduceBEq,Nat.reduceBNe,Nat.reducePow,Int.reduceToNat,Int.reduceLE,Int.reduceLT,Int.reduceMul,Int.reduceEq,Int.reducePow,Int.reduceAdd,Int.reduceSub,Int.reduceNeg,reduceCtorEq,f9,Tryz.results122,hw]) | (with_reducible first | refine af ?_ | refine ai ?_ | refine aj ?_ | refine ay fun K hK=>?_ | refine au ?_) | (with_reducible refine hK _ ?_;clear hK K))
def a8 : Nat→List Nat
 | 0=>[0,1,2,3]
 | 1=>[0,1,2,3,8]
 | 2=>[0,1,2,3,8]
 | 3=>[0,1,2,3,8]
 | 4=>[0,1,2,3,8,9]
 | 5=>[0,1,2,3,8,9]
 | 6=>[0,1,2,3,8,9]
 | _=>[]
set_option maxRecDepth 100000 in
set_option maxHeartbeats 8000000 in
theorem Bn (t : List Tm) (a b : Nat) (hab : a≤b) (hb : b≤t.length) (ht : oH t) (hl : t.length≤1000000) : AFn Tryz.prog 134 [.sl (aJ t) t.length .none,inA (a : Int),inA (b : Int),jc] [] (.tup []) []:=by
 have hw1:=cf (n:=a) (by omega)
 have hF:=lU
 refine aD [] Tryz.func134 rfl Tryz.ntmps134 (Nat.le_of_ble_eq_true rfl) (Nat.le_of_ble_eq_true rfl) fun w0 G0 B0 Pr hB0=>?_
 simp only [aO,aA,List.cons_append,List.nil_append]
 repeat' (first | (with_reducible refine hY _ ?_;clear hY Y) | ((with_reducible first | refine an rfl (ar fun K' hK'=>aa ?_) | refine hK' _ (ab fun Y hY=>aa ?_) | refine ae tk0 a8 (ab fun Y hY=>aa ?_));(try clear hK' K');(try dsimp only [aop]);try simp only [go_sem,↓reduceIte,Nat.reduceEqDiff,Nat.reduceLT,Nat.reduceLeDiff,Nat.reduceAdd,Nat.reduceSub,Nat.reduceMul,Nat.reduceBEq,Nat.reduceBNe,Nat.reducePow,Int.reduceToNat,Int.reduceLE,Int.reduceLT,Int.reduceMul,Int.reduceEq,Int.reducePow,Int.reduceAdd,Int.reduceSub,Int.reduceNeg,reduceCtorEq,a8,Tryz.results134,hw1]) | (with_reducible first | refine af ?_ | refine ai ?_ | refine aj ?_ | refine ay fun K hK=>?_ | refine al ?_ | refine bG ?_) | (with_reducible refine hK _ ?_;clear hK K))
 refine bK (α:=Nat) (fun i=>[(0,.sl (aJ t) t.length .none),(1,inA (a : Int)),(2,inA (b : Int)),(3,jc),(8,inA (i : Int))]) (fun i=>a < i) (fun i=>b - i) (a + 1) [0,1,2,3,8] ?_ (Nat.lt_succ_self a) ?_
 ·simp only [go_sem,↓reduceIte,Nat.reduceEqDiff,Nat.reduceLT,Nat.reduceLeDiff,Nat.reduceAdd,Nat.reduceSub,Nat.reduceMul,Nat.reduceBEq,Nat.reduceBNe,Nat.reducePow,Int.reduceToNat,Int.reduceLE,Int.reduceLT,Int.reduceMul,Int.reduceEq,Int.reducePow,Int.reduceAdd,Int.reduceSub,Int.reduceNeg,reduceCtorEq] <;> rfl
 intro i hi ih
 by_cases hlt : i < b
 ·have hlt' : ((i : Int) < (b : Int)) = True:=eq_true (by omega)
  have hgt' : ((a : Int) < (i : Int)) = True:=eq_true (by omega)
  have hkw:=cf (n:=i) (by omega)
  have hkm:=me (k:=i) (by omega) (by omega)
  have hg0:=ez (M:=t) (i:=i) (by omega)
  have hg1:=ez (M:=t) (i:=i - 1) (by omega)
  have hfl:=cl t
  have hb1 : (0 : Int)≤((i - 1 : Nat) : Int):=by omega
  have hb2 : ((i - 1 : Nat) : Int) < (t.length : Int):=by omega
  have hb3 : ((i : Int) < (t.length : Int)) = True:=eq_true (by omega)
  have hc:=qe t[i] t[i - 1] (ht.2 _ _) (ht.2 _ _)
  have hlt2 : (t[i].1 - t[i - 1].1 < 0) = False:=eq_false (by have:=ht.1 (i - 1) i (by omega) (by omega) (by omega);omega)
  have ih':=ih (i + 1) (by omega) (by omega)
  clear ih ht
  generalize t[i] = p at *
  generalize t[i - 1] = q at *
  repeat' (first | (with_reducible refine hY _ ?_;clear hY Y) | ((with_reducible first | refine an rfl (ar fun K' hK'=>aa ?_) | refine hK' _ (ab fun Y hY=>aa ?_) | refine ab fun Y hY=>aa ?_ | refine ae tk0 a8 (ab fun Y hY=>aa ?_));(try clear hK' K');(try dsimp only [aop]);try simp only [go_sem,↓reduceIte,Nat.reduceEqDiff,Nat.reduceLT,Nat.reduceLeDiff,Nat.reduceAdd,Nat.reduceSub,Nat.reduceMul,Nat.reduceBEq,Nat.reduceBNe,Nat.reducePow,Int.reduceToNat,Int.reduceLE,Int.reduceLT,Int.reduceMul,Int.reduceEq,Int.reducePow,Int.reduceAdd,Int.reduceSub,Int.reduceNeg,reduceCtorEq,a8,Tryz.results134,hlt']) | (with_reducible first | refine af ?_ | refine ai ?_ | refine aj ?_ | refine ay fun K hK=>?_ | refine ap ?_ | refine al ?_ | refine av ?_ | refine bG ?_) | (with_reducible refine hK _ ?_;clear hK K) | ((with_reducible refine ag ?_ ?_);(· decide)))
  refine fm ?_
  repeat' (first | (with_reducible refine hY _ ?_;clear hY Y) | ((with_reducible first | refine an rfl (ar fun K' hK'=>aa ?_) | refine hK' _ (ab fun Y hY=>aa ?_) | refine ab fun Y hY=>aa ?_ | refine ae tk0 a8 (ab fun Y hY=>aa ?_) | refine aa ?_ | refine cV rfl (cT fun K' hK'=>aa ?_) | refine hK' _ _ (ab fun Y hY=>aa ?_) | refine eU rfl (ab fun Y hY=>aa ?_) | refine cT fun K' hK'=>aa ?_);(try clear hK' K');(try dsimp only [aop]);try simp only [go_sem,↓reduceIte,Nat.reduceEqDiff,Nat.reduceLT,Nat.reduceLeDiff,Nat.reduceAdd,Nat.reduceSub,Nat.reduceMul,Nat.reduceBEq,Nat.reduceBNe,Nat.reducePow,Int.reduceToNat,Int.reduceLE,Int.reduceLT,Int.reduceMul,Int.reduceEq,Int.reducePow,Int.reduceAdd,Int.reduceSub,Int.reduceNeg,reduceCtorEq,a8,Tryz.results134,hgt',hkm,hkw,hg0,hg1,hfl,hb1,hb2,hb3,hlt2,hF]) | (with_reducible first | refine af ?_ | refine aL ?_ | refine ai ?_ | refine aj ?_ | refine ay fun K hK=>?_ | refine aq ?_ | refine bC ?_ | refine aU ?_ | refine bg ?_ | refine bf ?_ | refine ch ?_ | refine eN fun K hK=>?_) | (with_reducible refine hK _ ?_;clear hK K) | (with_reducible refine hK _ _ ?_ ?_;(· kernel_rfl);clear hK K) | ((with_reducible first | refine aG ?_ ?_ | refine ag ?_ ?_);(· decide)) | (with_reducible refine cg tk0 a8 ?_ ?_;(· kernel_rfl)) | (with_reducible refine bp ?_ ?_;(· (try and_intros) <;> first | omega | assumption | (simp only [List.length_append,List.length_map,List.length_cons,List.length_nil] <;> omega))) | (with_reducible refine ah (hc) ?_))
  refine bi [0,1,2,3,8] (by simp only [go_sem,↓reduceIte,Nat.reduceEqDiff,Nat.reduceLT,Nat.reduceLeDiff,Nat.reduceAdd,Nat.reduceSub,Nat.reduceMul,Nat.reduceBEq,Nat.reduceBNe,Nat.reducePow,Int.reduceToNat,Int.reduceLE,Int.reduceLT,Int.reduceMul,Int.reduceEq,Int.reducePow,Int.reduceAdd,Int.reduceSub,Int.reduceNeg,reduceCtorEq];exact rfl) ?_
  exact ih'
 ·have hlt' : ((i : Int) < (b : Int)) = False:=eq_false (by omega)
  clear ih ht
  repeat' (first | (with_reducible refine hY _ ?_;clear hY Y) | ((with_reducible first | refine an rfl (ar fun K' hK'=>aa ?_) | refine hK' _ (ab fun Y hY=>aa ?_) | refine ab fun Y hY=>aa ?_ | refine ae tk0 a8 (ab fun Y hY=>aa ?_) | refine aa ?_ | refine iS ?_);(try clear hK' K');(try dsimp only [aop]);try simp only [go_sem,↓reduceIte,Nat.reduceEqDiff,Nat.reduceLT,Nat.reduceLeDiff,Nat.reduceAdd,Nat.reduceSub,Nat.reduceMul,Nat.reduceBEq,Nat.reduceBNe,Nat.reducePow,Int.reduceToNat,Int.reduceLE,Int.reduceLT,Int.reduceMul,Int.reduceEq,Int.reducePow,Int.reduceAdd,Int.reduceSub,Int.reduceNeg,reduceCtorEq,a8,Tryz.results134,hlt']) | (with_reducible first | refine af ?_ | refine ai ?_ | refine aj ?_ | refine ay fun K hK=>?_ | refine aq ?_ | refine bC ?_ | refine bg ?_ | refine bf ?_) | (with_reducible refine hK _ ?_;clear hK K) | ((with_reducible refine ag ?_ ?_);(· decide)))
end Go.Proofs.YtmpdocplcgbpkaaGreatDoor
namespace Go.Proofs.YtmpdocplcgbpkaaGreatDoor
set_option linter.unusedSimpArgs false
set_option linter.unusedVariables false
open Go.RowKit
theorem fE {n : Nat} (h : n≤140737488351232) : IntKind.u64.wrap (n : Int) = (n : Int):=by simp [IntKind.wrap,IntKind.bits,IntKind.signed];omega
theorem lr {n : Nat} (h : n≤140737488351232) : IntKind.i64.wrap (n : Int) = (n : Int):=aY (by omega) (by omega)
theorem mu {n h : Nat} (e : h = n / 2) : (n : Int).fdiv 2 = (h : Int):=by rw [Int.fdiv_eq_ediv_of_nonneg _ (by decide),e];omega
def am : Nat→List Nat
 | 0=>[0,1,2,3,4]
 | 1=>[0,1,2,3,4]
 | 2=>[0,1,3,4,10]
 | 3=>[0,1,4,10,11]
 | 4=>[0,1,4,10,11]
 | 5=>[0,1,4,10,11,12]
 | 6=>[0,1,4,11,12]
 | 7=>[0,1,4,10,12]
 | 8=>[0,1,10]
 | 9=>[0,10,13]
 | 10=>[0,10,13]
 | 11=>[0,10,13]
 | 12=>[0,1,2,3,4]
 | 13=>[0,1,2,4]
 | 14=>[0,2,4,14]
 | 15=>[0,2,4,14,15]
 | 16=>[0,2,4,14,15]
 | 17=>[0,2,4,14,15,16]
 | 18=>[0,2,4,15,16]
 | 19=>[0,2,4,14,16]
 | 20=>[0,2,14]
 | 21=>[0,14,17]
 | 22=>[0,14,17]
 | 23=>[0,14,17]
 | 24=>[0,1,2,3,4]
 | 25=>[0,1,2,3,4,18]
 | 26=>[0,1,2,3,4,18,19]
 | 27=>[0,1,2,3,4,18,19]
 | 28=>[0,1,2,3,4,18,19]
 | 29=>[0,1,2,3,4,18,19,20]
 | 30=>[0,1,2,3,4,18,19]
 | 31=>[0,1,2,3,4,18,19,20]
 | 32=>[0,1,2,3,4,18,19,20,21]
 | 33=>[0,1,2,3,4,18,19,20,21,22]
 | 34=>[0,1,2,3,4,18,19,20,21,22]
 | 35=>[0,1,2,3,4,18,19,20,21,22,23]
 | 36=>[0,1,2,3,4,18,19,21,22,23]
 | 37=>[0,1,2,3,4,18,19,20,22,23]
 | 38=>[0,1,2,3,4,18,19,20]
 | 39=>[0,1,2,3,4,18,20,24]
 | 40=>[0,1,2,3,4,18,20,24]
 | 41=>[0,1,3,4,18,20,24]
 | 42=>[0,1,3,4,18,20,24]
 | 43=>[0,3,4,18,24]
 | 44=>[0,3,4,18,24]
 | _=>[]
set_option maxRecDepth 100000 in
set_option maxHeartbeats 16000000 in
theorem Bz (t : List Tm) (ht : oH t) (hl : t.length≤1000000) (a m b : Nat) (h1 : m = a + 1) (hmb : m < b) (hb : b≤t.length) : AFn Tryz.prog 135 [.sl (aJ t) t.length .none,inA (a : Int),inA (m : Int),inA (b : Int),jc] [] (.tup []) []:=by
 have hF:=lU
 have hfl:=cl t
 have hw1 : IntKind.i64.wrap ((m : Int) - (a : Int)) = 1:=by rw [fd (by omega) (by omega),h1];simp
 have hga:=ez (M:=t) (i:=a) (by omega)
 have hw2:=me (k:=m) (by omega) (by omega)
 have hlm : ((a : Int) < ((m - 1 : Nat) : Int)) = False:=eq_false (by omega)
 have hal : ((a : Int) < (t.length : Int)) = True:=eq_true (by omega)
 have ht2:=ht.2
 have ht1:=ht.1
 clear ht
 refine aD [] Tryz.func135 rfl Tryz.ntmps135 (Nat.le_of_ble_eq_true rfl) (Nat.le_of_ble_eq_true rfl) fun w0 G0 B0 Pr hB0=>?_
 simp only [aO,aA,List.cons_append,List.nil_append]
 repeat' (first | (with_reducible refine hY _ ?_;clear hY Y) | ((with_reducible first | refine an rfl (ar fun K' hK'=>aa ?_) | refine hK' _ (ab fun Y hY=>aa ?_) | refine ab fun Y hY=>aa ?_ | refine ae tk0 am (ab fun Y hY=>aa ?_));(try clear hK' K');(try dsimp only [aop]);try simp only [go_sem,↓reduceIte,Nat.reduceEqDiff,Nat.reduceLT,Nat.reduceLeDiff,Nat.reduceAdd,Nat.reduceSub,Nat.reduceMul,Nat.reduceBEq,Nat.reduceBNe,Nat.reducePow,Int.reduceToNat,Int.reduceLE,Int.reduceLT,Int.reduceMul,Int.reduceEq,Int.reducePow,Int.reduceAdd,Int.reduceSub,Int.reduceNeg,reduceCtorEq,am,Tryz.results135,hw1]) | (with_reducible first | refine af ?_ | refine ai ?_ | refine aj ?_ | refine ay fun K hK=>?_ | refine ap ?_ | refine al ?_ | refine bG ?_) | (with_reducible refine hK _ ?_;clear hK K) | ((with_reducible refine ag ?_ ?_);(· decide)))
 refine bK (α:=Nat) (fun j=>[(0,.sl (aJ t) t.length .none),(1,inA (a : Int)),(4,jc),(10,inA (m : Int)),(11,inA (j : Int))]) (fun j=>m≤j∧j≤b) (fun j=>j) b [0,1,4,10,11] ?_ ⟨by omega,Nat.le_refl _⟩ ?_
 ·simp only [go_sem,↓reduceIte,Nat.reduceEqDiff,Nat.reduceLT,Nat.reduceLeDiff,Nat.reduceAdd,Nat.reduceSub,Nat.reduceMul,Nat.reduceBEq,Nat.reduceBNe,Nat.reducePow,Int.reduceToNat,Int.reduceLE,Int.reduceLT,Int.reduceMul,Int.reduceEq,Int.reducePow,Int.reduceAdd,Int.reduceSub,Int.reduceNeg,reduceCtorEq] <;> rfl
 rintro j ⟨hj1,hj2⟩ ih
 by_cases hlt : m < j
 ·have hlt' : ((m : Int) < (j : Int)) = True:=eq_true (by omega)
  have hwa:=eK (a:=m) (b:=j) (by omega)
  have hwu:=fE (n:=m + j) (by omega)
  obtain ⟨h,hh⟩ : ∃ h,h = (m + j) / 2:=⟨_,rfl⟩
  have hsh:=mu hh
  have hwi:=lr (n:=h) (by omega)
  have hhl : ((h : Int) < (t.length : Int)) = True:=eq_true (by omega)
  have hgh:=ez (M:=t) (i:=h) (by omega)
  have hc:=qe t[h] t[a] (ht2 _ _) (ht2 _ _)
  have hlt2 : (t[h].1 - t[a].1 < 0) = False:=eq_false (by have:=ht1 a h (by omega) (by omega) (by omega);omega)
  have ih':=ih h ⟨by omega,by omega⟩ (by omega)
  clear ih ht1 ht2
  generalize t[h] = p at *
  generalize t[a] = q at *
  repeat' (first | (with_reducible refine hY _ ?_;clear hY Y) | ((with_reducible first | refine an rfl (ar fun K' hK'=>aa ?_) | refine hK' _ (ab fun Y hY=>aa ?_) | refine ab fun Y hY=>aa ?_ | refine ae tk0 am (ab fun Y hY=>aa ?_) | refine aa ?_ | refine cV rfl (cT fun K' hK'=>aa ?_) | refine hK' _ _ (ab fun Y hY=>aa ?_));(try clear hK' K');(try dsimp only [aop]);try simp only [go_sem,↓reduceIte,Nat.reduceEqDiff,Nat.reduceLT,Nat.reduceLeDiff,Nat.reduceAdd,Nat.reduceSub,Nat.reduceMul,Nat.reduceBEq,Nat.reduceBNe,Nat.reducePow,Int.reduceToNat,Int.reduceLE,Int.reduceLT,Int.reduceMul,Int.reduceEq,Int.reducePow,Int.reduceAdd,Int.reduceSub,Int.reduceNeg,reduceCtorEq,am,Tryz.results135,hlt',hwa,hwu,hsh,hwi,hhl,hgh,hga,hfl,hF,hlt2,hal]) | (with_reducible first | refine af ?_ | refine ai ?_ | refine aj ?_ | refine ay fun K hK=>?_ | refine ap ?_ | refine aq ?_ | refine aU ?_ | refine al ?_ | refine av ?_ | refine ch ?_ | refine eN fun K hK=>?_) | (with_reducible refine hK _ ?_;clear hK K) | (with_reducible refine hK _ _ ?_ ?_;(· kernel_rfl);clear hK K) | ((with_reducible refine ag ?_ ?_);(· decide)) | (with_reducible refine cg tk0 am ?_ ?_;(· kernel_rfl)) | (with_reducible refine bp ?_ ?_;(· (try and_intros) <;> first | omega | assumption | (simp only [List.length_append,List.length_map,List.length_cons,List.length_nil] <;> omega))) | (with_reducible refine ah (hc) ?_))
  refine bi [0,1,4,10,11] (by simp only [go_sem,↓reduceIte,Nat.reduceEqDiff,Nat.reduceLT,Nat.reduceLeDiff,Nat.reduceAdd,Nat.reduceSub,Nat.reduceMul,Nat.reduceBEq,Nat.reduceBNe,Nat.reducePow,Int.reduceToNat,Int.reduceLE,Int.reduceLT,Int.reduceMul,Int.reduceEq,Int.reducePow,Int.reduceAdd,Int.reduceSub,Int.reduceNeg,reduceCtorEq];exact rfl) ?_
  exact ih'
 ·have hlt' : ((m : Int) < (j : Int)) = False:=eq_false (by omega)
  clear ih ht1 ht2
  repeat' (first | (with_reducible refine hY _ ?_;clear hY Y) | ((with_reducible first | refine an rfl (ar fun K' hK'=>aa ?_) | refine hK' _ (ab fun Y hY=>aa ?_) | refine ab fun Y hY=>aa ?_ | refine ae tk0 am (ab fun Y hY=>aa ?_));(try clear hK' K');(try dsimp only [aop]);try simp only [go_sem,↓reduceIte,Nat.reduceEqDiff,Nat.reduceLT,Nat.reduceLeDiff,Nat.reduceAdd,Nat.reduceSub,Nat.reduceMul,Nat.reduceBEq,Nat.reduceBNe,Nat.reducePow,Int.reduceToNat,Int.reduceLE,Int.reduceLT,Int.reduceMul,Int.reduceEq,Int.reducePow,Int.reduceAdd,Int.reduceSub,Int.reduceNeg,reduceCtorEq,am,Tryz.results135,hlt']) | (with_reducible first | refine af ?_ | refine ai ?_ | refine aj ?_ | refine ay fun K hK=>?_ | refine aq ?_ | refine bC ?_ | refine bg ?_ | refine al ?_ | refine bf ?_ | refine bG ?_) | (with_reducible refine hK _ ?_;clear hK K) | ((with_reducible refine ag ?_ ?_);(· decide)))
  refine fm ?_
  repeat' (first | (with_reducible refine hY _ ?_;clear hY Y) | ((with_reducible first | refine an rfl (ar fun K' hK'=>aa ?_) | refine hK' _ (ab fun Y hY=>aa ?_) | refine ab fun Y hY=>aa ?_ | refine ae tk0 am (ab fun Y hY=>aa ?_) | refine aa ?_ | refine ao ?_);(try clear hK' K');(try dsimp only [aop]);try simp only [go_sem,↓reduceIte,Nat.reduceEqDiff,Nat.reduceLT,Nat.reduceLeDiff,Nat.reduceAdd,Nat.reduceSub,Nat.reduceMul,Nat.reduceBEq,Nat.reduceBNe,Nat.reducePow,Int.reduceToNat,Int.reduceLE,Int.reduceLT,Int.reduceMul,Int.reduceEq,Int.reducePow,Int.reduceAdd,Int.reduceSub,Int.reduceNeg,reduceCtorEq,am,Tryz.results135,hw2,hlm]) | (with_reducible first | refine af ?_ | refine ai ?_ | refine aj ?_ | refine ay fun K hK=>?_ | refine aq ?_ | refine bC ?_ | refine aS ?_ | refine bg ?_ | refine au ?_ | refine bf ?_) | (with_reducible refine hK _ ?_;clear hK K) | ((with_reducible refine ag ?_ ?_);(· decide)))
theorem BA (t : List Tm) (ht : oH t) (hl : t.length≤1000000) (a m b : Nat) (h1 : m ≠ a + 1) (ham : a < m) (hmb : b = m + 1) (hb : b≤t.length) : AFn Tryz.prog 135 [.sl (aJ t) t.length .none,inA (a : Int),inA (m : Int),inA (b : Int),jc] [] (.tup []) []:=by
 have hF:=lU
 have hfl:=cl t
 have hw1:=fd (a:=m) (b:=a) (by omega) (by omega)
 have hn1 : (((m - a : Nat) : Int) = 1) = False:=eq_false (by omega)
 have hw2 : IntKind.i64.wrap ((b : Int) - (m : Int)) = 1:=by rw [fd (by omega) (by omega),hmb];simp
 have hgm:=ez (M:=t) (i:=m) (by omega)
 have hml : ((m : Int) < (t.length : Int)) = True:=eq_true (by omega)
 have hmm : ((m : Int) < (m : Int)) = False:=eq_false (by omega)
 have ht2:=ht.2
 have ht1:=ht.1
 clear ht
 refine aD [] Tryz.func135 rfl Tryz.ntmps135 (Nat.le_of_ble_eq_true rfl) (Nat.le_of_ble_eq_true rfl) fun w0 G0 B0 Pr hB0=>?_
 simp only [aO,aA,List.cons_append,List.nil_append]
 repeat' (first | (with_reducible refine hY _ ?_;clear hY Y) | ((with_reducible first | refine an rfl (ar fun K' hK'=>aa ?_) | refine hK' _ (ab fun Y hY=>aa ?_) | refine ab fun Y hY=>aa ?_ | refine ae tk0 am (ab fun Y hY=>aa ?_));(try clear hK' K');(try dsimp only [aop]);try simp only [go_sem,↓reduceIte,Nat.reduceEqDiff,Nat.reduceLT,Nat.reduceLeDiff,Nat.reduceAdd,Nat.reduceSub,Nat.reduceMul,Nat.reduceBEq,Nat.reduceBNe,Nat.reducePow,Int.reduceToNat,Int.reduceLE,Int.reduceLT,Int.reduceMul,Int.reduceEq,Int.reducePow,Int.reduceAdd,Int.reduceSub,Int.reduceNeg,reduceCtorEq,am,Tryz.results135,hw1,hn1,hw2]) | (with_reducible first | refine af ?_ | refine ai ?_ | refine aj ?_ | refine ay fun K hK=>?_ | refine ap ?_ | refine aq ?_ | refine al ?_ | refine av ?_ | refine bG ?_) | (with_reducible refine hK _ ?_;clear hK K) | ((with_reducible refine ag ?_ ?_);(· decide)))
 refine bK (α:=Nat) (fun i=>[(0,.sl (aJ t) t.length .none),(2,inA (m : Int)),(4,jc),(14,inA (i : Int)),(15,inA (m : Int))]) (fun i=>a≤i∧i≤m) (fun i=>m - i) a [0,2,4,14,15] ?_ ⟨Nat.le_refl _,by omega⟩ ?_
 ·simp only [go_sem,↓reduceIte,Nat.reduceEqDiff,Nat.reduceLT,Nat.reduceLeDiff,Nat.reduceAdd,Nat.reduceSub,Nat.reduceMul,Nat.reduceBEq,Nat.reduceBNe,Nat.reducePow,Int.reduceToNat,Int.reduceLE,Int.reduceLT,Int.reduceMul,Int.reduceEq,Int.reducePow,Int.reduceAdd,Int.reduceSub,Int.reduceNeg,reduceCtorEq] <;> rfl
 rintro i ⟨hi1,hi2⟩ ih
 by_cases hlt : i < m
 ·have hlt' : ((i : Int) < (m : Int)) = True:=eq_true (by omega)
  have hwa:=eK (a:=i) (b:=m) (by omega)
  have hwu:=fE (n:=i + m) (by omega)
  obtain ⟨h,hh⟩ : ∃ h,h = (i + m) / 2:=⟨_,rfl⟩
  have hsh : ((i + m : Nat) : Int).fdiv 2 = (h : Int):=mu hh
  have hwh:=fE (n:=h) (by omega)
  have hwi:=lr (n:=h) (by omega)
  have hwk:=cf (n:=h) (by omega)
  have hgh:=ez (M:=t) (i:=h) (by omega)
  have hhl : ((h : Int) < (t.length : Int)) = True:=eq_true (by omega)
  have hc:=qe t[m] t[h] (ht2 _ _) (ht2 _ _)
  have hlt2 : (t[m].1 - t[h].1 < 0) = False:=eq_false (by have:=ht1 h m (by omega) (by omega) (by omega);omega)
  have ih':=ih (h + 1) ⟨by omega,by omega⟩ (by omega)
  clear ih ht1 ht2
  generalize t[h] = p at *
  generalize t[m] = q at *
  repeat' (first | (with_reducible refine hY _ ?_;clear hY Y) | ((with_reducible first | refine an rfl (ar fun K' hK'=>aa ?_) | refine hK' _ (ab fun Y hY=>aa ?_) | refine ab fun Y hY=>aa ?_ | refine ae tk0 am (ab fun Y hY=>aa ?_) | refine aa ?_ | refine cV rfl (cT fun K' hK'=>aa ?_) | refine hK' _ _ (ab fun Y hY=>aa ?_));(try clear hK' K');(try dsimp only [aop]);try simp only [go_sem,↓reduceIte,Nat.reduceEqDiff,Nat.reduceLT,Nat.reduceLeDiff,Nat.reduceAdd,Nat.reduceSub,Nat.reduceMul,Nat.reduceBEq,Nat.reduceBNe,Nat.reducePow,Int.reduceToNat,Int.reduceLE,Int.reduceLT,Int.reduceMul,Int.reduceEq,Int.reducePow,Int.reduceAdd,Int.reduceSub,Int.reduceNeg,reduceCtorEq,am,Tryz.results135,hlt',hwa,hwu,hsh,hwh,hwi,hwk,hgh,hgm,hfl,hF,hlt2,hml,hhl]) | (with_reducible first | refine af ?_ | refine ai ?_ | refine aj ?_ | refine ay fun K hK=>?_ | refine ap ?_ | refine aU ?_ | refine al ?_ | refine av ?_ | refine ch ?_ | refine eN fun K hK=>?_) | (with_reducible refine hK _ ?_;clear hK K) | (with_reducible refine hK _ _ ?_ ?_;(· kernel_rfl);clear hK K) | ((with_reducible refine ag ?_ ?_);(· decide)) | (with_reducible refine cg tk0 am ?_ ?_;(· kernel_rfl)) | (with_reducible refine bp ?_ ?_;(· (try and_intros) <;> first | omega | assumption | (simp only [List.length_append,List.length_map,List.length_cons,List.length_nil] <;> omega))) | (with_reducible refine ah (hc) ?_))
  refine bi [0,2,4,14,15] (by simp only [go_sem,↓reduceIte,Nat.reduceEqDiff,Nat.reduceLT,Nat.reduceLeDiff,Nat.reduceAdd,Nat.reduceSub,Nat.reduceMul,Nat.reduceBEq,Nat.reduceBNe,Nat.reducePow,Int.reduceToNat,Int.reduceLE,Int.reduceLT,Int.reduceMul,Int.reduceEq,Int.reducePow,Int.reduceAdd,Int.reduceSub,Int.reduceNeg,reduceCtorEq];exact rfl) ?_
  exact ih'
 ·have hlt' : ((i : Int) < (m : Int)) = False:=eq_false (by omega)
  obtain rfl : i = m:=by omega
  clear ih ht1 ht2
  repeat' (first | (with_reducible refine hY _ ?_;clear hY Y) | ((with_reducible first | refine an rfl (ar fun K' hK'=>aa ?_) | refine hK' _ (ab fun Y hY=>aa ?_) | refine ab fun Y hY=>aa ?_ | refine ae tk0 am (ab fun Y hY=>aa ?_));(try clear hK' K');(try dsimp only [aop]);try simp only [go_sem,↓reduceIte,Nat.reduceEqDiff,Nat.reduceLT,Nat.reduceLeDiff,Nat.reduceAdd,Nat.reduceSub,Nat.reduceMul,Nat.reduceBEq,Nat.reduceBNe,Nat.reducePow,Int.reduceToNat,Int.reduceLE,Int.reduceLT,Int.reduceMul,Int.reduceEq,Int.reducePow,Int.reduceAdd,Int.reduceSub,Int.reduceNeg,reduceCtorEq,am,Tryz.results135,hlt']) | (with_reducible first | refine af ?_ | refine ai ?_ | refine aj ?_ | refine ay fun K hK=>?_ | refine aq ?_ | refine bC ?_ | refine bg ?_ | refine al ?_ | refine bf ?_ | refine bG ?_) | (with_reducible refine hK _ ?_;clear hK K) | ((with_reducible refine ag ?_ ?_);(· decide)))
  refine fm ?_
  repeat' (first | (with_reducible refine hY _ ?_;clear hY Y) | ((with_reducible first | refine an rfl (ar fun K' hK'=>aa ?_) | refine hK' _ (ab fun Y hY=>aa ?_) | refine ab fun Y hY=>aa ?_ | refine ae tk0 am (ab fun Y hY=>aa ?_) | refine aa ?_ | refine ao ?_);(try clear hK' K');(try dsimp only [aop]);try simp only [go_sem,↓reduceIte,Nat.reduceEqDiff,Nat.reduceLT,Nat.reduceLeDiff,Nat.reduceAdd,Nat.reduceSub,Nat.reduceMul,Nat.reduceBEq,Nat.reduceBNe,Nat.reducePow,Int.reduceToNat,Int.reduceLE,Int.reduceLT,Int.reduceMul,Int.reduceEq,Int.reducePow,Int.reduceAdd,Int.reduceSub,Int.reduceNeg,reduceCtorEq,am,Tryz.results135,hmm]) | (with_reducible first | refine af ?_ | refine ai ?_ | refine aj ?_ | refine ay fun K hK=>?_ | refine aq ?_ | refine bC ?_ | refine aS ?_ | refine bg ?_ | refine au ?_ | refine bf ?_) | (with_reducible refine hK _ ?_;clear hK K) | ((with_reducible refine ag ?_ ?_);(· decide)))
set_option maxRecDepth 100000 in
set_option maxHeartbeats 16000000 in
theorem BB (t : List Tm) (ht : oH t) (hl : t.length≤1000000) (a m b mid : Nat) (hmid : mid = (a + b) / 2) (h1 : a + 1 < m) (h2 : m + 1 < b) (hb : b≤t.length)
  (r1 : mid < m→AFn Tryz.prog 135 [.sl (aJ t) t.length .none,inA (mid : Int),inA (m : Int),inA (b : Int),jc] [] (.tup []) [])
  (r2 : m < mid→AFn Tryz.prog 135 [.sl (aJ t) t.length .none,inA (a : Int),inA (m : Int),inA (mid : Int),jc] [] (.tup []) []) :
  AFn Tryz.prog 135 [.sl (aJ t) t.length .none,inA (a : Int),inA (m : Int),inA (b : Int),jc] [] (.tup []) []:=by
 have hF:=lU
 have hfl:=cl t
 have hw1:=fd (a:=m) (b:=a) (by omega) (by omega)
 have hn1 : (((m - a : Nat) : Int) = 1) = False:=eq_false (by omega)
 have hw2:=fd (a:=b) (b:=m) (by omega) (by omega)
 have hn2 : (((b - m : Nat) : Int) = 1) = False:=eq_false (by omega)
 have hwa:=eK (a:=a) (b:=b) (by omega)
 have hwu:=fE (n:=a + b) (by omega)
 have hsh : ((a + b : Nat) : Int).fdiv 2 = (mid : Int):=mu hmid
 have hwh:=fE (n:=mid) (by omega)
 have hwi:=lr (n:=mid) (by omega)
 have hwn:=eK (a:=mid) (b:=m) (by omega)
 have hp:=me (k:=mid + m) (by omega) (by omega)
 have hmm : ((m : Int) < (m : Int)) = False:=eq_false (by omega)
 have hdd : ((mid : Int) < (mid : Int)) = False:=eq_false (by omega)
 have hmb : ((m : Int) < (b : Int)) = True:=eq_true (by omega)
 have ham : ((a : Int) < (m : Int)) = True:=eq_true (by omega)
 have had : ((a : Int) < (mid : Int)) = True:=eq_true (by omega)
 have ht2:=ht.2
 have ht1:=ht.1
 clear ht
 by_cases hc : mid < m
 ·have hc' : ((mid : Int) < (m : Int)) = True:=eq_true (by omega)
  have hr:=r1 hc
  have hws:=fd (a:=mid + m) (b:=b) (by omega) (by omega)
  have hwe:=fd (a:=mid + m) (b:=mid) (by omega) (by omega)
  rw [show mid + m - mid = m by omega] at hwe
  refine aD [] Tryz.func135 rfl Tryz.ntmps135 (Nat.le_of_ble_eq_true rfl) (Nat.le_of_ble_eq_true rfl) fun w0 G0 B0 Pr hB0=>?_
  simp only [aO,aA,List.cons_append,List.nil_append]
  repeat' (first | (with_reducible refine hY _ ?_;clear hY Y) | ((with_reducible first | refine an rfl (ar fun K' hK'=>aa ?_) | refine hK' _ (ab fun Y hY=>aa ?_) | refine ab fun Y hY=>aa ?_ | refine ae tk0 am (ab fun Y hY=>aa ?_));(try clear hK' K');(try dsimp only [aop]);try simp only [go_sem,↓reduceIte,Nat.reduceEqDiff,Nat.reduceLT,Nat.reduceLeDiff,Nat.reduceAdd,Nat.reduceSub,Nat.reduceMul,Nat.reduceBEq,Nat.reduceBNe,Nat.reducePow,Int.reduceToNat,Int.reduceLE,Int.reduceLT,Int.reduceMul,Int.reduceEq,Int.reducePow,Int.reduceAdd,Int.reduceSub,Int.reduceNeg,reduceCtorEq,am,Tryz.results135,hw1,hn1,hw2,hn2,hwa,hwu,hsh,hwh,hwi,hwn,hc',hws,hp]) | (with_reducible first | refine af ?_ | refine ai ?_ | refine aj ?_ | refine ay fun K hK=>?_ | refine ap ?_ | refine aq ?_ | refine al ?_ | refine av ?_ | refine bG ?_) | (with_reducible refine hK _ ?_;clear hK K) | ((with_reducible refine ag ?_ ?_);(· decide)))
  refine bK (α:=Nat) (fun s=>[(0,.sl (aJ t) t.length .none),(1,inA (a : Int)),(2,inA (m : Int)),(3,inA (b : Int)),(4,jc),(18,inA (mid : Int)),(19,inA ((mid + m : Nat) : Int)),(20,inA (s : Int)),(21,inA (mid : Int)),(22,inA ((mid + m - 1 : Nat) : Int))]) (fun s=>mid + m - b≤s∧s≤mid) (fun s=>mid - s) (mid + m - b) [0,1,2,3,4,18,19,20,21,22] ?_ ⟨Nat.le_refl _,by omega⟩ ?_
  ·simp only [go_sem,↓reduceIte,Nat.reduceEqDiff,Nat.reduceLT,Nat.reduceLeDiff,Nat.reduceAdd,Nat.reduceSub,Nat.reduceMul,Nat.reduceBEq,Nat.reduceBNe,Nat.reducePow,Int.reduceToNat,Int.reduceLE,Int.reduceLT,Int.reduceMul,Int.reduceEq,Int.reducePow,Int.reduceAdd,Int.reduceSub,Int.reduceNeg,reduceCtorEq] <;> rfl
  rintro s ⟨hs1,hs2⟩ ih
  by_cases hlt : s < mid
  ·have hlt' : ((s : Int) < (mid : Int)) = True:=eq_true (by omega)
   have hwa2:=eK (a:=s) (b:=mid) (by omega)
   have hwu2:=fE (n:=s + mid) (by omega)
   obtain ⟨c,hcc⟩ : ∃ c,c = (s + mid) / 2:=⟨_,rfl⟩
   obtain ⟨e,hee⟩ : ∃ e,e = mid + m - 1 - c:=⟨_,rfl⟩
   have hsh2 : ((s + mid : Nat) : Int).fdiv 2 = (c : Int):=mu hcc
   have hwh2:=fE (n:=c) (by omega)
   have hwi2:=lr (n:=c) (by omega)
   have hwk:=cf (n:=c) (by omega)
   have hwp:=fd (a:=mid + m - 1) (b:=c) (by omega) (by omega)
   rw [← hee] at hwp
   have hgc:=ez (M:=t) (i:=c) (by omega)
   have hge:=ez (M:=t) (i:=e) (by omega)
   have hcl : ((c : Int) < (t.length : Int)) = True:=eq_true (by omega)
   have hel : ((e : Int) < (t.length : Int)) = True:=eq_true (by omega)
   have hk:=qe t[e] t[c] (ht2 _ _) (ht2 _ _)
   have hlt2 : (t[e].1 - t[c].1 < 0) = False:=eq_false (by have:=ht1 c e (by omega) (by omega) (by omega);omega)
   have ih':=ih (c + 1) ⟨by omega,by omega⟩ (by omega)
   clear ih ht1 ht2 r1 r2 hr
   generalize t[c] = p at *
   generalize t[e] = q at *
   repeat' (first | (with_reducible refine hY _ ?_;clear hY Y) | ((with_reducible first | refine an rfl (ar fun K' hK'=>aa ?_) | refine hK' _ (ab fun Y hY=>aa ?_) | refine ab fun Y hY=>aa ?_ | refine ae tk0 am (ab fun Y hY=>aa ?_) | refine aa ?_ | refine cV rfl (cT fun K' hK'=>aa ?_) | refine hK' _ _ (ab fun Y hY=>aa ?_));(try clear hK' K');(try dsimp only [aop]);try simp only [go_sem,↓reduceIte,Nat.reduceEqDiff,Nat.reduceLT,Nat.reduceLeDiff,Nat.reduceAdd,Nat.reduceSub,Nat.reduceMul,Nat.reduceBEq,Nat.reduceBNe,Nat.reducePow,Int.reduceToNat,Int.reduceLE,Int.reduceLT,Int.reduceMul,Int.reduceEq,Int.reducePow,Int.reduceAdd,Int.reduceSub,Int.reduceNeg,reduceCtorEq,am,Tryz.results135,hlt',hwa2,hwu2,hsh2,hwh2,hwi2,hwk,hwp,hgc,hge,hfl,hF,hlt2,hcl,hel]) | (with_reducible first | refine af ?_ | refine ai ?_ | refine aj ?_ | refine ay fun K hK=>?_ | refine ap ?_ | refine aU ?_ | refine al ?_ | refine av ?_ | refine ch ?_ | refine eN fun K hK=>?_) | (with_reducible refine hK _ ?_;clear hK K) | (with_reducible refine hK _ _ ?_ ?_;(· kernel_rfl);clear hK K) | ((with_reducible refine ag ?_ ?_);(· decide)) | (with_reducible refine cg tk0 am ?_ ?_;(· kernel_rfl)) | (with_reducible refine bp ?_ ?_;(· (try and_intros) <;> first | omega | assumption | (simp only [List.length_append,List.length_map,List.length_cons,List.length_nil] <;> omega))) | (with_reducible refine ah (hk) ?_))
   refine bi [0,1,2,3,4,18,19,20,21,22] (by simp only [go_sem,↓reduceIte,Nat.reduceEqDiff,Nat.reduceLT,Nat.reduceLeDiff,Nat.reduceAdd,Nat.reduceSub,Nat.reduceMul,Nat.reduceBEq,Nat.reduceBNe,Nat.reducePow,Int.reduceToNat,Int.reduceLE,Int.reduceLT,Int.reduceMul,Int.reduceEq,Int.reducePow,Int.reduceAdd,Int.reduceSub,Int.reduceNeg,reduceCtorEq];exact rfl) ?_
   exact ih'
  ·have hlt' : ((s : Int) < (mid : Int)) = False:=eq_false (by omega)
   obtain rfl : s = mid:=by omega
   clear ih ht1 ht2 r1 r2
   repeat' (first | (with_reducible refine hY _ ?_;clear hY Y) | ((with_reducible first | refine an rfl (ar fun K' hK'=>aa ?_) | refine hK' _ (ab fun Y hY=>aa ?_) | refine bl rfl (ab fun Y hY=>aa ?_) | refine ab fun Y hY=>aa ?_ | refine ar fun K' hK'=>aa ?_ | refine ae tk0 am (ab fun Y hY=>aa ?_) | refine aa ?_ | refine iS ?_);(try clear hK' K');(try dsimp only [aop]);try simp only [go_sem,↓reduceIte,Nat.reduceEqDiff,Nat.reduceLT,Nat.reduceLeDiff,Nat.reduceAdd,Nat.reduceSub,Nat.reduceMul,Nat.reduceBEq,Nat.reduceBNe,Nat.reducePow,Int.reduceToNat,Int.reduceLE,Int.reduceLT,Int.reduceMul,Int.reduceEq,Int.reducePow,Int.reduceAdd,Int.reduceSub,Int.reduceNeg,reduceCtorEq,am,Tryz.results135,hlt',hwe,hc',hmm,had,hdd,hmb]) | (with_reducible first | refine af ?_ | refine aL ?_ | refine ai ?_ | refine aj ?_ | refine ay fun K hK=>?_ | refine ap ?_ | refine aq ?_ | refine bC ?_ | refine bg ?_ | refine av ?_ | refine bf ?_) | (with_reducible refine hK _ ?_;clear hK K) | ((with_reducible first | refine aG ?_ ?_ | refine ag ?_ ?_);(· decide)) | (with_reducible refine ah (hr) ?_))
 ·have hc' : ((mid : Int) < (m : Int)) = False:=eq_false (by omega)
  have hwe:=fd (a:=mid + m) (b:=m) (by omega) (by omega)
  rw [show mid + m - m = mid by omega] at hwe
  refine aD [] Tryz.func135 rfl Tryz.ntmps135 (Nat.le_of_ble_eq_true rfl) (Nat.le_of_ble_eq_true rfl) fun w0 G0 B0 Pr hB0=>?_
  simp only [aO,aA,List.cons_append,List.nil_append]
  repeat' (first | (with_reducible refine hY _ ?_;clear hY Y) | ((with_reducible first | refine an rfl (ar fun K' hK'=>aa ?_) | refine hK' _ (ab fun Y hY=>aa ?_) | refine ab fun Y hY=>aa ?_ | refine ae tk0 am (ab fun Y hY=>aa ?_));(try clear hK' K');(try dsimp only [aop]);try simp only [go_sem,↓reduceIte,Nat.reduceEqDiff,Nat.reduceLT,Nat.reduceLeDiff,Nat.reduceAdd,Nat.reduceSub,Nat.reduceMul,Nat.reduceBEq,Nat.reduceBNe,Nat.reducePow,Int.reduceToNat,Int.reduceLE,Int.reduceLT,Int.reduceMul,Int.reduceEq,Int.reducePow,Int.reduceAdd,Int.reduceSub,Int.reduceNeg,reduceCtorEq,am,Tryz.results135,hw1,hn1,hw2,hn2,hwa,hwu,hsh,hwh,hwi,hwn,hc',hp]) | (with_reducible first | refine af ?_ | refine ai ?_ | refine aj ?_ | refine ay fun K hK=>?_ | refine aq ?_ | refine al ?_ | refine av ?_ | refine bG ?_) | (with_reducible refine hK _ ?_;clear hK K) | ((with_reducible refine ag ?_ ?_);(· decide)))
  refine bK (α:=Nat) (fun s=>[(0,.sl (aJ t) t.length .none),(1,inA (a : Int)),(2,inA (m : Int)),(3,inA (b : Int)),(4,jc),(18,inA (mid : Int)),(19,inA ((mid + m : Nat) : Int)),(20,inA (s : Int)),(21,inA (m : Int)),(22,inA ((mid + m - 1 : Nat) : Int))]) (fun s=>a≤s∧s≤m) (fun s=>m - s) a [0,1,2,3,4,18,19,20,21,22] ?_ ⟨Nat.le_refl _,by omega⟩ ?_
  ·simp only [go_sem,↓reduceIte,Nat.reduceEqDiff,Nat.reduceLT,Nat.reduceLeDiff,Nat.reduceAdd,Nat.reduceSub,Nat.reduceMul,Nat.reduceBEq,Nat.reduceBNe,Nat.reducePow,Int.reduceToNat,Int.reduceLE,Int.reduceLT,Int.reduceMul,Int.reduceEq,Int.reducePow,Int.reduceAdd,Int.reduceSub,Int.reduceNeg,reduceCtorEq] <;> rfl
  rintro s ⟨hs1,hs2⟩ ih
  by_cases hlt : s < m
  ·have hlt' : ((s : Int) < (m : Int)) = True:=eq_true (by omega)
   have hwa2:=eK (a:=s) (b:=m) (by omega)
   have hwu2:=fE (n:=s + m) (by omega)
   obtain ⟨c,hcc⟩ : ∃ c,c = (s + m) / 2:=⟨_,rfl⟩
   obtain ⟨e,hee⟩ : ∃ e,e = mid + m - 1 - c:=⟨_,rfl⟩
   have hsh2 : ((s + m : Nat) : Int).fdiv 2 = (c : Int):=mu hcc
   have hwh2:=fE (n:=c) (by omega)
   have hwi2:=lr (n:=c) (by omega)
   have hwk:=cf (n:=c) (by omega)
   have hwp:=fd (a:=mid + m - 1) (b:=c) (by omega) (by omega)
   rw [← hee] at hwp
   have hgc:=ez (M:=t) (i:=c) (by omega)
   have hge:=ez (M:=t) (i:=e) (by omega)
   have hcl : ((c : Int) < (t.length : Int)) = True:=eq_true (by omega)
   have hel : ((e : Int) < (t.length : Int)) = True:=eq_true (by omega)
   have hk:=qe t[e] t[c] (ht2 _ _) (ht2 _ _)
   have hlt2 : (t[e].1 - t[c].1 < 0) = False:=eq_false (by have:=ht1 c e (by omega) (by omega) (by omega);omega)
   have ih':=ih (c + 1) ⟨by omega,by omega⟩ (by omega)
   clear ih ht1 ht2 r1 r2
   generalize t[c] = p at *
   generalize t[e] = q at *
   repeat' (first | (with_reducible refine hY _ ?_;clear hY Y) | ((with_reducible first | refine an rfl (ar fun K' hK'=>aa ?_) | refine hK' _ (ab fun Y hY=>aa ?_) | refine ab fun Y hY=>aa ?_ | refine ae tk0 am (ab fun Y hY=>aa ?_) | refine aa ?_ | refine cV rfl (cT fun K' hK'=>aa ?_) | refine hK' _ _ (ab fun Y hY=>aa ?_));(try clear hK' K');(try dsimp only [aop]);try simp only [go_sem,↓reduceIte,Nat.reduceEqDiff,Nat.reduceLT,Nat.reduceLeDiff,Nat.reduceAdd,Nat.reduceSub,Nat.reduceMul,Nat.reduceBEq,Nat.reduceBNe,Nat.reducePow,Int.reduceToNat,Int.reduceLE,Int.reduceLT,Int.reduceMul,Int.reduceEq,Int.reducePow,Int.reduceAdd,Int.reduceSub,Int.reduceNeg,reduceCtorEq,am,Tryz.results135,hlt',hwa2,hwu2,hsh2,hwh2,hwi2,hwk,hwp,hgc,hge,hfl,hF,hlt2,hcl,hel]) | (with_reducible first | refine af ?_ | refine ai ?_ | refine aj ?_ | refine ay fun K hK=>?_ | refine ap ?_ | refine aU ?_ | refine al ?_ | refine av ?_ | refine ch ?_ | refine eN fun K hK=>?_) | (with_reducible refine hK _ ?_;clear hK K) | (with_reducible refine hK _ _ ?_ ?_;(· kernel_rfl);clear hK K) | ((with_reducible refine ag ?_ ?_);(· decide)) | (with_reducible refine cg tk0 am ?_ ?_;(· kernel_rfl)) | (with_reducible refine bp ?_ ?_;(· (try and_intros) <;> first | omega | assumption | (simp only [List.length_append,List.length_map,List.length_cons,List.length_nil] <;> omega))) | (with_reducible refine ah (hk) ?_))
   refine bi [0,1,2,3,4,18,19,20,21,22] (by simp only [go_sem,↓reduceIte,Nat.reduceEqDiff,Nat.reduceLT,Nat.reduceLeDiff,Nat.reduceAdd,Nat.reduceSub,Nat.reduceMul,Nat.reduceBEq,Nat.reduceBNe,Nat.reducePow,Int.reduceToNat,Int.reduceLE,Int.reduceLT,Int.reduceMul,Int.reduceEq,Int.reducePow,Int.reduceAdd,Int.reduceSub,Int.reduceNeg,reduceCtorEq];exact rfl) ?_
   exact ih'
  ·have hlt' : ((s : Int) < (m : Int)) = False:=eq_false (by omega)
   obtain rfl : s = m:=by omega
   clear ih ht1 ht2 r1
   by_cases hq : s < mid
   ·have hq' : ((s : Int) < (mid : Int)) = True:=eq_true (by omega)
    have hr:=r2 hq
    repeat' (first | (with_reducible refine hY _ ?_;clear hY Y) | ((with_reducible first | refine an rfl (ar fun K' hK'=>aa ?_) | refine hK' _ (ab fun Y hY=>aa ?_) | refine bl rfl (ab fun Y hY=>aa ?_) | refine ab fun Y hY=>aa ?_ | refine ar fun K' hK'=>aa ?_ | refine ae tk0 am (ab fun Y hY=>aa ?_) | refine aa ?_ | refine iS ?_);(try clear hK' K');(try dsimp only [aop]);try simp only [go_sem,↓reduceIte,Nat.reduceEqDiff,Nat.reduceLT,Nat.reduceLeDiff,Nat.reduceAdd,Nat.reduceSub,Nat.reduceMul,Nat.reduceBEq,Nat.reduceBNe,Nat.reducePow,Int.reduceToNat,Int.reduceLE,Int.reduceLT,Int.reduceMul,Int.reduceEq,Int.reducePow,Int.reduceAdd,Int.reduceSub,Int.reduceNeg,reduceCtorEq,am,Tryz.results135,hlt',hwe,hmm,ham,hq',hdd]) | (with_reducible first | refine af ?_ | refine bh rfl ?_ | refine aL ?_ | refine cS ?_ ?_ | refine ai ?_ | refine aj ?_ | refine ay fun K hK=>?_ | refine ap ?_ | refine aq ?_ | refine bC ?_ | refine bg ?_ | refine av ?_ | refine bf ?_) | (with_reducible refine hK _ ?_;clear hK K) | ((with_reducible first | refine aG ?_ ?_ | refine ag ?_ ?_);(· decide)) | (with_reducible refine ah (hr) ?_))
   ·have hq' : ((s : Int) < (mid : Int)) = False:=eq_false (by omega)
    clear r2
    repeat' (first | (with_reducible refine hY _ ?_;clear hY Y) | ((with_reducible first | refine an rfl (ar fun K' hK'=>aa ?_) | refine hK' _ (ab fun Y hY=>aa ?_) | refine bl rfl (ab fun Y hY=>aa ?_) | refine ab fun Y hY=>aa ?_ | refine ar fun K' hK'=>aa ?_ | refine ae tk0 am (ab fun Y hY=>aa ?_) | refine aa ?_ | refine iS ?_);(try clear hK' K');(try dsimp only [aop]);try simp only [go_sem,↓reduceIte,Nat.reduceEqDiff,Nat.reduceLT,Nat.reduceLeDiff,Nat.reduceAdd,Nat.reduceSub,Nat.reduceMul,Nat.reduceBEq,Nat.reduceBNe,Nat.reducePow,Int.reduceToNat,Int.reduceLE,Int.reduceLT,Int.reduceMul,Int.reduceEq,Int.reducePow,Int.reduceAdd,Int.reduceSub,Int.reduceNeg,reduceCtorEq,am,Tryz.results135,hlt',hwe,hmm,ham,hq',hdd]) | (with_reducible first | refine af ?_ | refine bh rfl ?_ | refine aL ?_ | refine cS ?_ ?_ | refine ai ?_ | refine aj ?_ | refine ay fun K hK=>?_ | refine aq ?_ | refine bC ?_ | refine bg ?_ | refine av ?_ | refine bf ?_) | (with_reducible refine hK _ ?_;clear hK K) | ((with_reducible first | refine aG ?_ ?_ | refine ag ?_ ?_);(· decide)))
theorem BC (t : List Tm) (ht : oH t) (hl : t.length≤1000000) : ∀ (d a m b : Nat),b - a = d→a < m→m < b→b≤t.length→AFn Tryz.prog 135 [.sl (aJ t) t.length .none,inA (a : Int),inA (m : Int),inA (b : Int),jc] [] (.tup []) []:=by
 intro d
 induction d using Nat.strongRecOn with
 | _ d IH =>
 intro a m b hd ham hmb hb
 by_cases h1 : m = a + 1
 ·exact Bz t ht hl a m b h1 hmb hb
 by_cases h2 : b = m + 1
 ·exact BA t ht hl a m b h1 ham h2 hb
 exact BB t ht hl a m b ((a + b) / 2) rfl (by omega) (by omega) hb
  (fun h=>IH _ (by omega) ((a + b) / 2) m b rfl h hmb hb)
  (fun h=>IH _ (by omega) a m ((a + b) / 2) rfl ham h (by omega))
end Go.Proofs.YtmpdocplcgbpkaaGreatDoor
