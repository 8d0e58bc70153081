/- The document's Same of a form and itself, in K. lin.Same in K, of whatever two forms. Clauses in K: atoms are gathered. Clauses in K: gather. -/
import Derived.Test.YtmpdocplcgbpkaaGreatDoorZ9
import Derived.Laws.StructEq
import Derived.Test.YtmpdocplcgbpkaaGreatDoorZ10
import Derived.Test.YtmpdocplcgbpkaaGreatDoorZ7
namespace Go.Proofs.YtmpdocplcgbpkaaGreatDoor
set_option linter.unusedSimpArgs false
set_option linter.unusedVariables false
open Go.RowKit
set_option maxRecDepth 100000 in
theorem wO (p q : Operand) (v x : Int) : ∀ w,((eqGuard .neq 94 p q (.agg #[.int .i64 v,.int .i64 x]) (.agg #[.int .i64 v,.int .i64 x]) >>= fun _=>binOp .neq 94 (.agg #[.int .i64 v,.int .i64 x]) (.agg #[.int .i64 v,.int .i64 x])) : Sem Value).run Tryz.prog w = .ok (.bool false) w:=fun w=>by
 have u3:=Tryz.underlying3
 have a3:=Tryz.isAgg3
 have z3:=Tryz.sizeOf3
 have hS : Tryz.prog.underlying 94 = some (.struct (Tryz.prog.fieldsOf 94)):=by kernel_rfl
 have hp : Tryz.prog.stoodInHeld 94 = false:=by kernel_rfl
 have hm : Tryz.prog.eqGuardType Tryz.prog.depth 94 = false:=by kernel_rfl
 rw [Sem.run_bind,run_eqGuard_agg w .neq _ p q _ _ hm]
 simp only [Result.andThen_ok]
 rw [run_neq_struct,show (10000 : Nat) = 9999 + 1 from rfl,run_equalIn_agg w 9999 _ _ _ hS hp]
 simp only [Program.fieldsOf,Tryz.underlying94]
 simp [go_sem,Op.eqFields,u3,a3,z3]
end Go.Proofs.YtmpdocplcgbpkaaGreatDoor
namespace Go.Proofs.YtmpdocplcgbpkaaGreatDoor
set_option linter.unusedSimpArgs false
set_option linter.unusedVariables false
open Go.RowKit
set_option maxRecDepth 100000 in
theorem uM (p q : Operand) (v x v' x' : Int) (hne : ¬ (v = v'∧x = x')) : ∀ w,((eqGuard .neq 94 p q (.agg #[.int .i64 v,.int .i64 x]) (.agg #[.int .i64 v',.int .i64 x']) >>= fun _=>binOp .neq 94 (.agg #[.int .i64 v,.int .i64 x]) (.agg #[.int .i64 v',.int .i64 x'])) : Sem Value).run Tryz.prog w = .ok (.bool true) w:=fun w=>by
 have u3:=Tryz.underlying3
 have a3:=Tryz.isAgg3
 have z3:=Tryz.sizeOf3
 have hS : Tryz.prog.underlying 94 = some (.struct (Tryz.prog.fieldsOf 94)):=by kernel_rfl
 have hp : Tryz.prog.stoodInHeld 94 = false:=by kernel_rfl
 have hm : Tryz.prog.eqGuardType Tryz.prog.depth 94 = false:=by kernel_rfl
 rw [Sem.run_bind,run_eqGuard_agg w .neq _ p q _ _ hm]
 simp only [Result.andThen_ok]
 rw [run_neq_struct,show (10000 : Nat) = 9999 + 1 from rfl,run_equalIn_agg w 9999 _ _ _ hS hp]
 simp only [Program.fieldsOf,Tryz.underlying94]
 by_cases h1 : v = v'
 ·have h2 : ¬ x = x':=fun e=>hne ⟨h1,e⟩
  subst h1
  simp [go_sem,Op.eqFields,u3,a3,z3,h2]
 ·simp [go_sem,Op.eqFields,u3,a3,z3,h1]
def eqT (a b : List Tm) : Bool:=decide (a = b)
def aR : Nat→List Nat
 | 0=>[0,1]
 | 1=>[0,1]
 | 2=>[]
 | 3=>[0,1]
 | 4=>[0,1,12,13]
 | 5=>[0,1,12,13]
 | 6=>[0,1,5,12,13]
 | 7=>[]
 | 8=>[0,1,12,13]
 | 9=>[]
 | _=>[]
set_option maxRecDepth 100000 in
set_option maxHeartbeats 8000000 in
theorem vW (a b : List Tm) (ha : Lg a) (hb : Lg b) : AFn Tryz.prog 120 [.sl (aJ a) a.length .none,.sl (aJ b) b.length .none] [] (.c (.bool (eqT a b))) []:=by
 unfold Lg at ha hb
 by_cases hl : a.length = b.length
 ·have hl' : ((a.length : Int) = (b.length : Int)) = True:=eq_true (by omega)
  have hlb : ((b.length : Nat) : Int) = (a.length : Int):=by omega
  refine aD [] Tryz.func120 rfl Tryz.ntmps120 (Nat.le_of_ble_eq_true rfl) (Nat.le_of_ble_eq_true rfl) fun w0 G0 B0 Pr hB0=>?_
  simp only [aO,aA,List.cons_append,List.nil_append]
  repeat' (first | (with_reducible refine hY _ ?_;clear hY Y) | ((with_reducible first | refine an rfl (ar fun K' hK'=>aa ?_) | refine hK' _ (ab fun Y hY=>aa ?_) | refine ab fun Y hY=>aa ?_ | refine ae tk0 aR (ab fun Y hY=>aa ?_));(try clear hK' K');(try dsimp only [aop]);try simp only [go_sem,↓reduceIte,Nat.reduceEqDiff,Nat.reduceLT,Nat.reduceLeDiff,Nat.reduceAdd,Nat.reduceSub,Nat.reduceMul,Nat.reduceBEq,Nat.reduceBNe,Nat.reducePow,Int.reduceToNat,Int.reduceLE,Int.reduceLT,Int.reduceMul,Int.reduceEq,Int.reducePow,Int.reduceAdd,Int.reduceSub,Int.reduceNeg,reduceCtorEq,aR,Tryz.results120,hl']) | (with_reducible first | refine af ?_ | refine ai ?_ | refine aj ?_ | refine ay fun K hK=>?_ | refine aq ?_ | refine al ?_ | refine av ?_ | refine bG ?_) | (with_reducible refine hK _ ?_;clear hK K) | ((with_reducible refine ag ?_ ?_);(· decide)))
  refine bK (α:=Nat) (fun k=>[(0,.sl (aJ a) a.length .none),(1,.sl (aJ b) b.length .none),(12,inA (a.length : Int)),(13,inA (k : Int))])
   (fun k=>k≤a.length∧∀ j (h1 : j < a.length) (h2 : j < b.length),j < k→a[j] = b[j]) (fun k=>a.length - k) 0 [0,1,12,13] ?_ ⟨Nat.zero_le _,fun j _ _ h=>absurd h (Nat.not_lt_zero _)⟩ ?_
  ·simp only [go_sem,↓reduceIte,Nat.reduceEqDiff,Nat.reduceLT,Nat.reduceLeDiff,Nat.reduceAdd,Nat.reduceSub,Nat.reduceMul,Nat.reduceBEq,Nat.reduceBNe,Nat.reducePow,Int.reduceToNat,Int.reduceLE,Int.reduceLT,Int.reduceMul,Int.reduceEq,Int.reducePow,Int.reduceAdd,Int.reduceSub,Int.reduceNeg,reduceCtorEq] <;> rfl
  rintro k ⟨hk,hall⟩ ih
  by_cases hlt : k < a.length
  ·have hltb : k < b.length:=by omega
   have hlt' : ((k : Int) < (a.length : Int)) = True:=eq_true (by omega)
   have hltb' : ((k : Int) < (b.length : Int)) = True:=eq_true (by omega)
   have hkw:=cf (n:=k) (by omega)
   have hg0:=ez hlt
   have hg1:=ez hltb
   have hfa:=cl a
   have hfb:=cl b
   by_cases hd : a[k] = b[k]
   ·have ih':=ih (k + 1) ⟨by omega,fun j h1 h2 hjk=>by
     by_cases e : j < k
     ·exact hall j h1 h2 e
     ·obtain rfl : j = k:=by omega
      exact hd⟩ (by omega)
    rw [← hd] at hg1
    clear ih hall hd
    generalize a[k] = m at *
    obtain ⟨v,x⟩:=m
    simp only at hg0 hg1
    repeat' (first | (with_reducible refine hY _ ?_;clear hY Y) | ((with_reducible first | refine an rfl (ar fun K' hK'=>aa ?_) | refine hK' _ (ab fun Y hY=>aa ?_) | refine ab fun Y hY=>aa ?_ | refine ae tk0 aR (ab fun Y hY=>aa ?_) | refine aa ?_ | refine cV rfl (cT fun K' hK'=>aa ?_) | refine hK' _ _ (ab fun Y hY=>aa ?_));(try clear hK' K');(try dsimp only [aop]);try simp only [go_sem,↓reduceIte,Nat.reduceEqDiff,Nat.reduceLT,Nat.reduceLeDiff,Nat.reduceAdd,Nat.reduceSub,Nat.reduceMul,Nat.reduceBEq,Nat.reduceBNe,Nat.reducePow,Int.reduceToNat,Int.reduceLE,Int.reduceLT,Int.reduceMul,Int.reduceEq,Int.reducePow,Int.reduceAdd,Int.reduceSub,Int.reduceNeg,reduceCtorEq,aR,Tryz.results120,hlt',hltb',hfa,hfb,hg0,hg1,hkw]) | (with_reducible first | refine af ?_ | refine ai ?_ | refine aj ?_ | refine ay fun K hK=>?_ | refine ap ?_ | refine aq ?_ | refine aU ?_ | refine al ?_ | refine av ?_ | refine ch ?_ | refine eN fun K hK=>?_) | (with_reducible refine hK _ ?_;clear hK K) | (with_reducible refine hK _ _ ?_ ?_;(· kernel_rfl);clear hK K) | ((with_reducible refine ag ?_ ?_);(· decide)) | (with_reducible refine cg tk0 aR ?_ ?_;(· kernel_rfl)) | (with_reducible refine bp ?_ ?_;(· (try and_intros) <;> first | omega | assumption | (simp only [List.length_append,List.length_map,List.length_cons,List.length_nil] <;> omega))) | (with_reducible refine ce (wO _ _ _ _) ?_))
    refine bi [0,1,12,13] (by simp only [go_sem,↓reduceIte,Nat.reduceEqDiff,Nat.reduceLT,Nat.reduceLeDiff,Nat.reduceAdd,Nat.reduceSub,Nat.reduceMul,Nat.reduceBEq,Nat.reduceBNe,Nat.reducePow,Int.reduceToNat,Int.reduceLE,Int.reduceLT,Int.reduceMul,Int.reduceEq,Int.reducePow,Int.reduceAdd,Int.reduceSub,Int.reduceNeg,reduceCtorEq];exact rfl) ?_
    exact ih'
   ·rw [show eqT a b = false from decide_eq_false fun e=>hd (by subst e;rfl)]
    clear ih hall
    generalize a[k] = m at *
    generalize b[k] = n at *
    obtain ⟨v,x⟩:=m
    obtain ⟨v',x'⟩:=n
    have hne : ¬ (v = v'∧x = x'):=fun e=>hd (by rw [e.1,e.2])
    simp only at hg0 hg1
    repeat' (first | (with_reducible refine hY _ ?_;clear hY Y) | ((with_reducible first | refine an rfl (ar fun K' hK'=>aa ?_) | refine hK' _ (ab fun Y hY=>aa ?_) | refine ab fun Y hY=>aa ?_ | refine ae tk0 aR (ab fun Y hY=>aa ?_) | refine aa ?_ | refine ao ?_ | refine cV rfl (cT fun K' hK'=>aa ?_) | refine hK' _ _ (ab fun Y hY=>aa ?_));(try clear hK' K');(try dsimp only [aop]);try simp only [go_sem,↓reduceIte,Nat.reduceEqDiff,Nat.reduceLT,Nat.reduceLeDiff,Nat.reduceAdd,Nat.reduceSub,Nat.reduceMul,Nat.reduceBEq,Nat.reduceBNe,Nat.reducePow,Int.reduceToNat,Int.reduceLE,Int.reduceLT,Int.reduceMul,Int.reduceEq,Int.reducePow,Int.reduceAdd,Int.reduceSub,Int.reduceNeg,reduceCtorEq,aR,Tryz.results120,hlt',hltb',hfa,hfb,hg0,hg1,hkw]) | (with_reducible first | refine af ?_ | refine ai ?_ | refine aj ?_ | refine ay fun K hK=>?_ | refine ap ?_ | refine aS ?_ | refine bb ?_ | refine al ?_ | refine av ?_ | refine au ?_ | refine ch ?_ | refine eN fun K hK=>?_) | (with_reducible refine hK _ ?_;clear hK K) | (with_reducible refine hK _ _ ?_ ?_;(· kernel_rfl);clear hK K) | ((with_reducible refine ag ?_ ?_);(· decide)) | (with_reducible refine cg tk0 aR ?_ ?_;(· kernel_rfl)) | (with_reducible refine bp ?_ ?_;(· (try and_intros) <;> first | omega | assumption | (simp only [List.length_append,List.length_map,List.length_cons,List.length_nil] <;> omega))) | (with_reducible refine ce (uM _ _ _ _ _ _ hne) ?_))
  ·have hlt' : ((k : Int) < (a.length : Int)) = False:=eq_false (by omega)
   rw [show eqT a b = true from decide_eq_true (List.ext_getElem hl fun j h1 h2=>hall j h1 h2 (by omega))]
   clear ih hall
   repeat' (first | (with_reducible refine hY _ ?_;clear hY Y) | ((with_reducible first | refine an rfl (ar fun K' hK'=>aa ?_) | refine hK' _ (ab fun Y hY=>aa ?_) | refine ab fun Y hY=>aa ?_ | refine ae tk0 aR (ab fun Y hY=>aa ?_) | refine aa ?_ | refine ao ?_);(try clear hK' K');(try dsimp only [aop]);try simp only [go_sem,↓reduceIte,Nat.reduceEqDiff,Nat.reduceLT,Nat.reduceLeDiff,Nat.reduceAdd,Nat.reduceSub,Nat.reduceMul,Nat.reduceBEq,Nat.reduceBNe,Nat.reducePow,Int.reduceToNat,Int.reduceLE,Int.reduceLT,Int.reduceMul,Int.reduceEq,Int.reducePow,Int.reduceAdd,Int.reduceSub,Int.reduceNeg,reduceCtorEq,aR,Tryz.results120,hlt']) | (with_reducible first | refine af ?_ | refine ai ?_ | refine aj ?_ | refine ay fun K hK=>?_ | refine aq ?_ | refine bC ?_ | refine bg ?_ | refine au ?_ | refine bf ?_) | (with_reducible refine hK _ ?_;clear hK K) | ((with_reducible refine ag ?_ ?_);(· decide)))
 ·have hl' : ((a.length : Int) = (b.length : Int)) = False:=eq_false (by omega)
  rw [show eqT a b = false from decide_eq_false fun e=>hl (by rw [e])]
  refine aD [] Tryz.func120 rfl Tryz.ntmps120 (Nat.le_of_ble_eq_true rfl) (Nat.le_of_ble_eq_true rfl) fun w0 G0 B0 Pr hB0=>?_
  simp only [aO,aA,List.cons_append,List.nil_append]
  repeat' (first | (with_reducible refine hY _ ?_;clear hY Y) | ((with_reducible first | refine an rfl (ar fun K' hK'=>aa ?_) | refine hK' _ (ab fun Y hY=>aa ?_) | refine ab fun Y hY=>aa ?_ | refine ae tk0 aR (ab fun Y hY=>aa ?_) | refine aa ?_ | refine ao ?_);(try clear hK' K');(try dsimp only [aop]);try simp only [go_sem,↓reduceIte,Nat.reduceEqDiff,Nat.reduceLT,Nat.reduceLeDiff,Nat.reduceAdd,Nat.reduceSub,Nat.reduceMul,Nat.reduceBEq,Nat.reduceBNe,Nat.reducePow,Int.reduceToNat,Int.reduceLE,Int.reduceLT,Int.reduceMul,Int.reduceEq,Int.reducePow,Int.reduceAdd,Int.reduceSub,Int.reduceNeg,reduceCtorEq,aR,Tryz.results120,hl']) | (with_reducible first | refine af ?_ | refine ai ?_ | refine aj ?_ | refine ay fun K hK=>?_ | refine ap ?_ | refine aS ?_ | refine au ?_) | (with_reducible refine hK _ ?_;clear hK K) | ((with_reducible refine ag ?_ ?_);(· decide)))
def fu (a b : Ln) : Bool:=decide (a.c = b.c) && eqT a.t b.t
def dN : Nat→List Nat
 | 0=>[0,1]
 | 1=>[2,3]
 | _=>[]
set_option maxRecDepth 100000 in
theorem uH (a b : Ln) (ha : Lg a.t) (hb : Lg b.t) : AFn Tryz.prog 108 [.agg (lnA a),.agg (lnA b)] [] (.c (.bool (fu a b))) []:=by
 have h:=vW a.t b.t ha hb
 unfold fu
 by_cases hc : a.c = b.c
 ·have hc' : (a.c = b.c) = True:=eq_true hc
  rw [decide_eq_true hc,Bool.true_and]
  refine aD [] Tryz.func108 rfl Tryz.ntmps108 (Nat.le_of_ble_eq_true rfl) (Nat.le_of_ble_eq_true rfl) fun w0 G0 B0 Pr hB0=>?_
  simp only [aO,aA,List.cons_append,List.nil_append]
  repeat' (first | (with_reducible refine hY _ ?_;clear hY Y) | ((with_reducible first | refine an rfl (ar fun K' hK'=>aa ?_) | refine hK' _ (ab fun Y hY=>aa ?_) | refine bl rfl (ab fun Y hY=>aa ?_) | refine ab fun Y hY=>aa ?_ | refine ar fun K' hK'=>aa ?_ | refine ae tk0 dN (ab fun Y hY=>aa ?_) | refine aa ?_ | refine ao ?_);(try clear hK' K');(try dsimp only [aop]);try simp only [go_sem,↓reduceIte,Nat.reduceEqDiff,Nat.reduceLT,Nat.reduceLeDiff,Nat.reduceAdd,Nat.reduceSub,Nat.reduceMul,Nat.reduceBEq,Nat.reduceBNe,Nat.reducePow,Int.reduceToNat,Int.reduceLE,Int.reduceLT,Int.reduceMul,Int.reduceEq,Int.reducePow,Int.reduceAdd,Int.reduceSub,Int.reduceNeg,reduceCtorEq,dN,Tryz.results108,hc']) | (with_reducible first | refine af ?_ | refine aL ?_ | refine ai ?_ | refine aj ?_ | refine ay fun K hK=>?_ | refine au ?_) | (with_reducible refine hK _ ?_;clear hK K) | ((with_reducible refine aG ?_ ?_);(· decide)) | (with_reducible refine ah (h) ?_))
 ·have hc' : (a.c = b.c) = False:=eq_false hc
  rw [decide_eq_false hc,Bool.false_and]
  refine aD [] Tryz.func108 rfl Tryz.ntmps108 (Nat.le_of_ble_eq_true rfl) (Nat.le_of_ble_eq_true rfl) fun w0 G0 B0 Pr hB0=>?_
  simp only [aO,aA,List.cons_append,List.nil_append]
  repeat' (first | (with_reducible refine hY _ ?_;clear hY Y) | ((with_reducible first | refine an rfl (ar fun K' hK'=>aa ?_) | refine hK' _ (ab fun Y hY=>aa ?_) | refine bl rfl (ab fun Y hY=>aa ?_) | refine ab fun Y hY=>aa ?_ | refine ae tk0 dN (ab fun Y hY=>aa ?_) | refine aa ?_ | refine ao ?_);(try clear hK' K');(try dsimp only [aop]);try simp only [go_sem,↓reduceIte,Nat.reduceEqDiff,Nat.reduceLT,Nat.reduceLeDiff,Nat.reduceAdd,Nat.reduceSub,Nat.reduceMul,Nat.reduceBEq,Nat.reduceBNe,Nat.reducePow,Int.reduceToNat,Int.reduceLE,Int.reduceLT,Int.reduceMul,Int.reduceEq,Int.reducePow,Int.reduceAdd,Int.reduceSub,Int.reduceNeg,reduceCtorEq,dN,Tryz.results108,hc']) | (with_reducible first | refine af ?_ | refine bh rfl ?_ | refine cS ?_ ?_ | refine ai ?_ | refine aj ?_ | refine ay fun K hK=>?_ | refine au ?_) | (with_reducible refine hK _ ?_;clear hK K) | ((with_reducible refine aG ?_ ?_);(· decide)))
end Go.Proofs.YtmpdocplcgbpkaaGreatDoor
namespace Go.Proofs.YtmpdocplcgbpkaaGreatDoor
set_option linter.unusedSimpArgs false
set_option linter.unusedVariables false
open Go.RowKit
def eq : Nat→List Nat
 | 0=>[0,1]
 | 1=>[1,2]
 | _=>[]
theorem p8 : aM Tryz.prog 107 = true:=by kernel_rfl
set_option maxRecDepth 100000 in
theorem xK (l o : Ln) (hl : Lg l.t) (ho : Lg o.t) : AFn Tryz.prog 107 [.agg (lnA o),.loc 20000 0] [.bc (lnA l) 24] (.c (.bool (fu l o))) [.bc (lnA l) 24]:=by
 have h:=uH l o hl ho
 generalize fu l o = b at *
 obtain ⟨c,t⟩:=l
 obtain ⟨c',t'⟩:=o
 refine aD [] Tryz.func107 rfl Tryz.ntmps107 (Nat.le_of_ble_eq_true rfl) (Nat.le_of_ble_eq_true rfl) fun w0 G0 B0 Pr hB0=>?_
 simp only [aO,aA,List.cons_append,List.nil_append]
 repeat' (first | (with_reducible refine hY _ ?_;clear hY Y) | ((with_reducible first | refine an rfl (ar fun K' hK'=>aa ?_) | refine hK' _ (ab fun Y hY=>aa ?_) | refine ae tk0 eq (ab fun Y hY=>aa ?_) | refine aa ?_ | refine ao ?_);(try clear hK' K');(try dsimp only [aop]);try simp only [go_sem,↓reduceIte,Nat.reduceEqDiff,Nat.reduceLT,Nat.reduceLeDiff,Nat.reduceAdd,Nat.reduceSub,Nat.reduceMul,Nat.reduceBEq,Nat.reduceBNe,Nat.reducePow,Int.reduceToNat,Int.reduceLE,Int.reduceLT,Int.reduceMul,Int.reduceEq,Int.reducePow,Int.reduceAdd,Int.reduceSub,Int.reduceNeg,reduceCtorEq,eq,Tryz.results107]) | (with_reducible first | refine af ?_ | refine ai ?_ | refine aj ?_ | refine ay fun K hK=>?_ | refine au ?_) | (with_reducible refine hK _ ?_;clear hK K) | (with_reducible refine ah (h) ?_))
def ba : Nat→List Nat
 | 0=>[0,1]
 | 1=>[0,1]
 | 2=>[0,1,7,8]
 | 3=>[0,1,7,8]
 | 4=>[0,1,5,7,8]
 | 5=>[5]
 | 6=>[0,1,7,8]
 | 7=>[]
 | _=>[]
set_option maxRecDepth 100000 in
set_option maxHeartbeats 8000000 in
theorem AD (ls : List Ln) (l : Ln) (hls : ls.length≤1000000) (hl : Lg l.t) (hlt0 : ∀ o ∈ ls,Lg o.t) :
  AFn Tryz.prog 106 [.sl (ls.flatMap lnA) ls.length (.tok 20000),.fn (.func 107) [] [.loc 20001 0]] [.bt ls.length 24,.bc (lnA l) 24] (inA (fiP (fu l) ls)) [.bt ls.length 24,.bc (lnA l) 24]:=by
 have hF:=p8
 refine aD [] Tryz.func106 rfl Tryz.ntmps106 (Nat.le_of_ble_eq_true rfl) (Nat.le_of_ble_eq_true rfl) fun w0 G0 B0 Pr hB0=>?_
 simp only [aO,aA,List.cons_append,List.nil_append]
 repeat' (first | (with_reducible refine hY _ ?_;clear hY Y) | ((with_reducible first | refine an rfl (ar fun K' hK'=>aa ?_) | refine hK' _ (ab fun Y hY=>aa ?_) | refine ae tk0 ba (ab fun Y hY=>aa ?_));(try clear hK' K');(try dsimp only [aop]);try simp only [go_sem,↓reduceIte,Nat.reduceEqDiff,Nat.reduceLT,Nat.reduceLeDiff,Nat.reduceAdd,Nat.reduceSub,Nat.reduceMul,Nat.reduceBEq,Nat.reduceBNe,Nat.reducePow,Int.reduceToNat,Int.reduceLE,Int.reduceLT,Int.reduceMul,Int.reduceEq,Int.reducePow,Int.reduceAdd,Int.reduceSub,Int.reduceNeg,reduceCtorEq,ba,Tryz.results106]) | (with_reducible first | refine af ?_ | refine ai ?_ | refine aj ?_ | refine ay fun K hK=>?_ | refine al ?_ | refine bG ?_) | (with_reducible refine hK _ ?_;clear hK K))
 refine bK (α:=Nat) (fun k=>[(0,.sl (ls.flatMap lnA) ls.length (.tok 20000)),(1,.fn (.func 107) [] [.loc 20001 0]),(7,inA (ls.length : Int)),(8,inA (k : Int)),(20000,.bt ls.length 24),(20001,.bc (lnA l) 24)])
  (fun k=>k≤ls.length∧∀ j (hj : j < ls.length),j < k→fu l ls[j] = false) (fun k=>ls.length - k) 0 [0,1,7,8] ?_ ⟨Nat.zero_le _,fun j _ hj=>absurd hj (Nat.not_lt_zero _)⟩ ?_
 ·simp only [go_sem,↓reduceIte,Nat.reduceEqDiff,Nat.reduceLT,Nat.reduceLeDiff,Nat.reduceAdd,Nat.reduceSub,Nat.reduceMul,Nat.reduceBEq,Nat.reduceBNe,Nat.reducePow,Int.reduceToNat,Int.reduceLE,Int.reduceLT,Int.reduceMul,Int.reduceEq,Int.reducePow,Int.reduceAdd,Int.reduceSub,Int.reduceNeg,reduceCtorEq] <;> rfl
 rintro k ⟨hk,hall⟩ ih
 by_cases hlt : k < ls.length
 ·have hlt' : ((k : Int) < (ls.length : Int)) = True:=eq_true (by omega)
  have hkw:=cf (n:=k) (by omega)
  have h1:=xK l ls[k] hl (hlt0 _ (List.getElem_mem hlt))
  have hg0:=jo hlt
  have hfl:=ei ls
  have hfi:=lz (p:=fu l) hlt hall
  have hnx : fu l ls[k] = false→∀ j (hj : j < ls.length),j < k + 1→fu l ls[j] = false:=fun e j hj hjk=>by
   by_cases hj2 : j < k
   ·exact hall j hj hj2
   ·have : j = k:=by omega
    subst this;exact e
  clear hlt0
  generalize ls[k] = o at *
  generalize hp : fu l o = b at *
  cases b with
  | true =>
   rw [hfi rfl]
   clear ih hfi hnx hall
   repeat' (first | (with_reducible refine hY _ ?_;clear hY Y) | ((with_reducible first | refine an rfl (ar fun K' hK'=>aa ?_) | refine hK' _ (ab fun Y hY=>aa ?_) | refine ab fun Y hY=>aa ?_ | refine ae tk0 ba (ab fun Y hY=>aa ?_) | refine aa ?_ | refine ao ?_);(try clear hK' K');(try dsimp only [aop]);try simp only [go_sem,↓reduceIte,Nat.reduceEqDiff,Nat.reduceLT,Nat.reduceLeDiff,Nat.reduceAdd,Nat.reduceSub,Nat.reduceMul,Nat.reduceBEq,Nat.reduceBNe,Nat.reducePow,Int.reduceToNat,Int.reduceLE,Int.reduceLT,Int.reduceMul,Int.reduceEq,Int.reducePow,Int.reduceAdd,Int.reduceSub,Int.reduceNeg,reduceCtorEq,ba,Tryz.results106,hlt',hfl,hg0,hkw,hF]) | (with_reducible first | refine af ?_ | refine ai ?_ | refine aj ?_ | refine ay fun K hK=>?_ | refine ap ?_ | refine aS ?_ | refine bb ?_ | refine al ?_ | refine av ?_ | refine au ?_) | (with_reducible refine hK _ ?_;clear hK K) | ((with_reducible refine ag ?_ ?_);(· decide)) | (with_reducible refine bp ?_ ?_;(· (try and_intros) <;> first | omega | assumption | (simp only [List.length_append,List.length_map,List.length_cons,List.length_nil] <;> omega))) | (with_reducible refine ah (h1) ?_))
  | false =>
   clear hfi
   have ih':=ih (k + 1) ⟨by omega,hnx rfl⟩ (by omega)
   clear ih hnx hall
   repeat' (first | (with_reducible refine hY _ ?_;clear hY Y) | ((with_reducible first | refine an rfl (ar fun K' hK'=>aa ?_) | refine hK' _ (ab fun Y hY=>aa ?_) | refine ab fun Y hY=>aa ?_ | refine ae tk0 ba (ab fun Y hY=>aa ?_) | refine aa ?_);(try clear hK' K');(try dsimp only [aop]);try simp only [go_sem,↓reduceIte,Nat.reduceEqDiff,Nat.reduceLT,Nat.reduceLeDiff,Nat.reduceAdd,Nat.reduceSub,Nat.reduceMul,Nat.reduceBEq,Nat.reduceBNe,Nat.reducePow,Int.reduceToNat,Int.reduceLE,Int.reduceLT,Int.reduceMul,Int.reduceEq,Int.reducePow,Int.reduceAdd,Int.reduceSub,Int.reduceNeg,reduceCtorEq,ba,Tryz.results106,hlt',hfl,hg0,hkw,hF]) | (with_reducible first | refine af ?_ | refine ai ?_ | refine aj ?_ | refine ay fun K hK=>?_ | refine ap ?_ | refine aq ?_ | refine aU ?_ | refine al ?_ | refine av ?_) | (with_reducible refine hK _ ?_;clear hK K) | ((with_reducible refine ag ?_ ?_);(· decide)) | (with_reducible refine bp ?_ ?_;(· (try and_intros) <;> first | omega | assumption | (simp only [List.length_append,List.length_map,List.length_cons,List.length_nil] <;> omega))) | (with_reducible refine ah (h1) ?_))
   refine bi [0,1,7,8] (by simp only [go_sem,↓reduceIte,Nat.reduceEqDiff,Nat.reduceLT,Nat.reduceLeDiff,Nat.reduceAdd,Nat.reduceSub,Nat.reduceMul,Nat.reduceBEq,Nat.reduceBNe,Nat.reducePow,Int.reduceToNat,Int.reduceLE,Int.reduceLT,Int.reduceMul,Int.reduceEq,Int.reducePow,Int.reduceAdd,Int.reduceSub,Int.reduceNeg,reduceCtorEq];exact rfl) ?_
   exact ih'
 ·have hlt' : ((k : Int) < (ls.length : Int)) = False:=eq_false (by omega)
  rw [lC fun j hj=>hall j hj (by omega)]
  clear ih hall hlt0
  repeat' (first | (with_reducible refine hY _ ?_;clear hY Y) | ((with_reducible first | refine an rfl (ar fun K' hK'=>aa ?_) | refine hK' _ (ab fun Y hY=>aa ?_) | refine ab fun Y hY=>aa ?_ | refine ae tk0 ba (ab fun Y hY=>aa ?_) | refine aa ?_ | refine ao ?_);(try clear hK' K');(try dsimp only [aop]);try simp only [go_sem,↓reduceIte,Nat.reduceEqDiff,Nat.reduceLT,Nat.reduceLeDiff,Nat.reduceAdd,Nat.reduceSub,Nat.reduceMul,Nat.reduceBEq,Nat.reduceBNe,Nat.reducePow,Int.reduceToNat,Int.reduceLE,Int.reduceLT,Int.reduceMul,Int.reduceEq,Int.reducePow,Int.reduceAdd,Int.reduceSub,Int.reduceNeg,reduceCtorEq,ba,Tryz.results106,hlt']) | (with_reducible first | refine af ?_ | refine ai ?_ | refine aj ?_ | refine ay fun K hK=>?_ | refine aq ?_ | refine bC ?_ | refine bg ?_ | refine au ?_ | refine bf ?_) | (with_reducible refine hK _ ?_;clear hK K) | ((with_reducible refine ag ?_ ?_);(· decide)))
abbrev et (c : List Int × Bool) : AV:=.sl (c.1.map inA) c.1.length (if c.2 then .full else .none)
abbrev mkB (N : Int) (ls : List Ln) (cs : List (List Int × Bool)) : AV:=.bc [inA N,.sl (ls.flatMap lnA) ls.length (.tok 20001),.sl (cs.map et) cs.length (.tok 20002),.c (.bool false)] 88
abbrev mkX (N : Int) (ls : List Ln) (cs : List (List Int × Bool)) : List AV:=[mkB N ls cs,.bt ls.length 24,.bt cs.length 41]
def atN (ls : List Ln) (l : Ln) : Int:=1 + fiP (fu l) ls
theorem wb {α : Type} (p : α→Bool) (l : List α) : -1≤fiP p l∧fiP p l < l.length:=by
 unfold fiP
 split
 ·rename_i h
  obtain ⟨x,hx,hp⟩:=List.any_eq_true.1 h
  have:=List.findIdx_lt_length_of_exists (p:=p) (xs:=l) ⟨x,hx,hp⟩
  omega
 ·omega
def eQ : Nat→List Nat
 | 0=>[0,1]
 | 1=>[0,3]
 | _=>[]
set_option maxRecDepth 100000 in
set_option maxHeartbeats 8000000 in
theorem vK (N : Int) (ls : List Ln) (cs : List (List Int × Bool)) (l : Ln) (hls : ls.length≤1000000) (hl : Lg l.t) (hlt0 : ∀ o ∈ ls,Lg o.t) :
  AFn Tryz.prog 72 [.loc 20000 0,.agg (lnA l)] (mkX N ls cs) (inA (atN ls l)) (mkX N ls cs):=by
 have h:=AD ls l hls hl hlt0
 have hF:=p8
 have hb:=wb (fu l) ls
 unfold atN
 generalize fiP (fu l) ls = x at *
 have hw : IntKind.i64.wrap (1 + x) = 1 + x:=aY (by omega) (by omega)
 obtain ⟨c,t⟩:=l
 clear hlt0
 generalize cs.map et = CS at *
 refine aD [] Tryz.func72 rfl Tryz.ntmps72 (Nat.le_of_ble_eq_true rfl) (Nat.le_of_ble_eq_true rfl) fun w0 G0 B0 Pr hB0=>?_
 simp only [aO,aA,List.cons_append,List.nil_append]
 repeat' (first | (with_reducible refine hY _ ?_;clear hY Y) | ((with_reducible first | refine an rfl (ar fun K' hK'=>aa ?_) | refine hK' _ (ab fun Y hY=>aa ?_) | refine ae tk0 eQ (ab fun Y hY=>aa ?_) | refine aa ?_ | refine ao ?_);(try clear hK' K');(try dsimp only [aop]);try simp only [go_sem,↓reduceIte,Nat.reduceEqDiff,Nat.reduceLT,Nat.reduceLeDiff,Nat.reduceAdd,Nat.reduceSub,Nat.reduceMul,Nat.reduceBEq,Nat.reduceBNe,Nat.reducePow,Int.reduceToNat,Int.reduceLE,Int.reduceLT,Int.reduceMul,Int.reduceEq,Int.reducePow,Int.reduceAdd,Int.reduceSub,Int.reduceNeg,reduceCtorEq,eQ,Tryz.results72,hF,hw]) | (with_reducible first | refine af ?_ | refine ai ?_ | refine aj ?_ | refine ay fun K hK=>?_ | refine au ?_) | (with_reducible refine hK _ ?_;clear hK K) | (with_reducible refine ah (h) ?_))
end Go.Proofs.YtmpdocplcgbpkaaGreatDoor
namespace Go.Proofs.YtmpdocplcgbpkaaGreatDoor
set_option linter.unusedSimpArgs false
set_option linter.unusedVariables false
open Go.RowKit
def j5 (k : Int) (l : Ln) (ls : List Ln) : List Ln:=if k = 2∧atN ls l = 0 then ls ++ [l] else ls
mutual
def c8 : Fo→List Ln→List Ln
 | .mk k l ks,ls=>g5 ks (j5 k l ls)
def g5 : List Fo→List Ln→List Ln
 | [],ls=>ls
 | f :: r,ls=>g5 r (c8 f ls)
end
theorem qh (k : Int) (l : Ln) (ls : List Ln) : (j5 k l ls).length≤ls.length + 1:=by
 unfold j5;split
 ·simp
 ·omega
theorem tj {k : Int} {l : Ln} {ls : List Ln} (hl : Lg l.t) (h : ∀ o ∈ ls,Lg o.t) : ∀ o ∈ j5 k l ls,Lg o.t:=fun o ho=>by
 unfold j5 at ho
 split at ho
 ·rcases List.mem_append.1 ho with ho | ho
  ·exact h o ho
  ·rw [List.mem_singleton] at ho;subst ho;exact hl
 ·exact h o ho
mutual
theorem jh : ∀ (f : Fo) (ls : List Ln),(c8 f ls).length≤ls.length + tot f
 | .mk k l ks,ls=>by
  have h1:=qh k l ls
  have h2:=qj ks (j5 k l ls)
  rw [c8,tot];omega
theorem qj : ∀ (l : List Fo) (ls : List Ln),(g5 l ls).length≤ls.length + dJ l
 | [],ls=>by rw [g5,dJ];omega
 | f :: r,ls=>by
  have h1:=jh f ls
  have h2:=qj r (c8 f ls)
  rw [g5,dJ];omega
end
mutual
theorem lW : ∀ (f : Fo) (ls : List Ln),OkF f→(∀ o ∈ ls,Lg o.t)→∀ o ∈ c8 f ls,Lg o.t
 | .mk k l ks,ls,h,hl=>by
  rw [c8]
  exact tm ks _ h.2.2 (tj h.1 hl)
theorem tm : ∀ (l : List Fo) (ls : List Ln),jZ l→(∀ o ∈ ls,Lg o.t)→∀ o ∈ g5 l ls,Lg o.t
 | [],ls,_,hl=>by rw [g5];exact hl
 | f :: r,ls,h,hl=>by
  rw [g5]
  exact tm r _ h.2 (lW f ls h.1 hl)
end
abbrev Au (k c : Int) (t : List Tm) (ks : List Fo) : List AV:=[inA k,inA c,.sl (aJ t) t.length .none,.sl (cD ks) ks.length .none]
theorem ky (k c : Int) (t : List Tm) (ks : List Fo) : foA (.mk k ⟨c,t⟩ ks) = Au k c t ks:=rfl
theorem mI (a : List Ln) (l : Ln) : (a ++ [l]).flatMap lnA = a.flatMap lnA ++ [inA l.c,.sl (aJ l.t) l.t.length .none]:=by rw [List.flatMap_append];simp
def bj : Nat→List Nat
 | 0=>[0,1]
 | 1=>[0,3]
 | 2=>[0,3]
 | 3=>[0,3]
 | 4=>[0,30,31,32]
 | 5=>[0,30,31,32]
 | 6=>[0,5,30,31,32]
 | 7=>[0,30,31,32]
 | _=>[]
set_option maxRecDepth 100000 in
set_option maxHeartbeats 16000000 in
theorem qn (N : Int) (cs : List (List Int × Bool)) : ∀ f,OkF f→∀ (ls : List Ln),ls.length + tot f≤1000000→(∀ o ∈ ls,Lg o.t) →
  AFn Tryz.prog 35 [.loc 20000 0,.agg (foA f)] (mkX N ls cs) (.tup []) (mkX N (c8 f ls) cs):=by
 refine iH fun k l ks hlt0 hlk hoks IH ls hb hlg=>?_
 have hat:=vK N ls cs l (by omega) hlt0 hlg
 rw [tot] at hb
 have hg1:=qh k l ls
 have hgl : ∀ o ∈ j5 k l ls,Lg o.t:=tj hlt0 hlg
 rw [c8]
 have hgd : j5 k l ls = if k = 2∧atN ls l = 0 then ls ++ [l] else ls:=rfl
 generalize j5 k l ls = l1 at *
 obtain ⟨c,t⟩:=l
 rw [ky]
 unfold Lg at hlk
 have hCl : (ls.flatMap lnA).length = ls.length * 2:=ei ls
 refine aD [] Tryz.func35 rfl Tryz.ntmps35 (Nat.le_of_ble_eq_true rfl) (Nat.le_of_ble_eq_true rfl) fun w0 G0 B0 Pr hB0=>?_
 simp only [aO,aA,List.cons_append,List.nil_append]
 apply kW (α:=Unit) (fun _=>[(0,.loc 20000 0),(3,.loc 10003 0),(10003,.bc (Au k c t ks) 27),(20000,mkB N l1 cs),(20001,.bt l1.length 24),(20002,.bt cs.length 41)]) (fun _=>True)
 case use =>
  intro key
  by_cases k2 : k = 2
  ·by_cases ha : atN ls ⟨c,t⟩ = 0
   ·have h1 : l1 = ls ++ [⟨c,t⟩]:=by rw [hgd,if_pos ⟨k2,ha⟩]
    have h2 : l1.flatMap lnA = ls.flatMap lnA ++ [inA c,.sl (aJ t) t.length .none]:=by rw [h1,mI]
    have h3 : l1.length = ls.length + 1:=by rw [h1];simp
    repeat' (first | (with_reducible refine hY _ ?_;clear hY Y) | ((with_reducible first | refine an rfl (ar fun K' hK'=>aa ?_) | refine hK' _ (ab fun Y hY=>aa ?_) | refine bl rfl (ab fun Y hY=>aa ?_) | refine ab fun Y hY=>aa ?_ | refine ar fun K' hK'=>aa ?_ | refine aa ?_ | refine cV rfl (cT fun K' hK'=>aa ?_) | refine hK' _ _ (ab fun Y hY=>aa ?_));(try clear hK' K');(try dsimp only [aop]);try simp only [go_sem,↓reduceIte,Nat.reduceEqDiff,Nat.reduceLT,Nat.reduceLeDiff,Nat.reduceAdd,Nat.reduceSub,Nat.reduceMul,Nat.reduceBEq,Nat.reduceBNe,Nat.reducePow,Int.reduceToNat,Int.reduceLE,Int.reduceLT,Int.reduceMul,Int.reduceEq,Int.reducePow,Int.reduceAdd,Int.reduceSub,Int.reduceNeg,reduceCtorEq,bj,Tryz.results35,k2,ha,hCl]) | (with_reducible first | refine af ?_ | refine aL ?_ | refine ai ?_ | refine ay fun K hK=>?_ | refine ap ?_ | refine ch ?_ | refine eN fun K hK=>?_) | ((with_reducible refine cq 3 ?_ ?_);(· rfl)) | ((with_reducible refine bD 3 tk0 bj ?_ (ab fun Y hY=>aa ?_));(· rfl);(try dsimp only [aop]);try simp only [go_sem,↓reduceIte,Nat.reduceEqDiff,Nat.reduceLT,Nat.reduceLeDiff,Nat.reduceAdd,Nat.reduceSub,Nat.reduceMul,Nat.reduceBEq,Nat.reduceBNe,Nat.reducePow,Int.reduceToNat,Int.reduceLE,Int.reduceLT,Int.reduceMul,Int.reduceEq,Int.reducePow,Int.reduceAdd,Int.reduceSub,Int.reduceNeg,reduceCtorEq,bj,Tryz.results35,k2,ha,hCl]) | (with_reducible refine hK _ ?_;clear hK K) | (with_reducible refine hK _ _ ?_ ?_;(· kernel_rfl);clear hK K) | ((with_reducible first | refine aG ?_ ?_ | refine ag ?_ ?_);(· decide)) | ((with_reducible refine um 3 tk0 bj ?_ ?_ ?_);(· rfl);(· kernel_rfl)) | (with_reducible refine bp ?_ ?_;(· (try and_intros) <;> first | omega | assumption | (simp only [List.length_append,List.length_map,List.length_cons,List.length_nil] <;> omega))) | (with_reducible refine ah (hat) ?_))
    exact bL (L:=[0,3]) (by simp only [go_sem,↓reduceIte,Nat.reduceEqDiff,Nat.reduceLT,Nat.reduceLeDiff,Nat.reduceAdd,Nat.reduceSub,Nat.reduceMul,Nat.reduceBEq,Nat.reduceBNe,Nat.reducePow,Int.reduceToNat,Int.reduceLE,Int.reduceLT,Int.reduceMul,Int.reduceEq,Int.reducePow,Int.reduceAdd,Int.reduceSub,Int.reduceNeg,reduceCtorEq,mkB,h2,h3,k2];try exact rfl) (key () trivial)
   ·have h1 : l1 = ls:=by rw [hgd,if_neg fun e=>ha e.2]
    have ha' : (atN ls ⟨c,t⟩ = 0) = False:=eq_false ha
    repeat' (first | (with_reducible refine hY _ ?_;clear hY Y) | ((with_reducible first | refine an rfl (ar fun K' hK'=>aa ?_) | refine hK' _ (ab fun Y hY=>aa ?_) | refine bl rfl (ab fun Y hY=>aa ?_) | refine ab fun Y hY=>aa ?_ | refine ar fun K' hK'=>aa ?_ | refine aa ?_);(try clear hK' K');(try dsimp only [aop]);try simp only [go_sem,↓reduceIte,Nat.reduceEqDiff,Nat.reduceLT,Nat.reduceLeDiff,Nat.reduceAdd,Nat.reduceSub,Nat.reduceMul,Nat.reduceBEq,Nat.reduceBNe,Nat.reducePow,Int.reduceToNat,Int.reduceLE,Int.reduceLT,Int.reduceMul,Int.reduceEq,Int.reducePow,Int.reduceAdd,Int.reduceSub,Int.reduceNeg,reduceCtorEq,bj,Tryz.results35,k2,ha',hCl]) | (with_reducible first | refine af ?_ | refine aL ?_ | refine ai ?_ | refine ay fun K hK=>?_ | refine aq ?_ | refine av ?_) | ((with_reducible refine cq 3 ?_ ?_);(· rfl)) | ((with_reducible refine bD 3 tk0 bj ?_ (ab fun Y hY=>aa ?_));(· rfl);(try dsimp only [aop]);try simp only [go_sem,↓reduceIte,Nat.reduceEqDiff,Nat.reduceLT,Nat.reduceLeDiff,Nat.reduceAdd,Nat.reduceSub,Nat.reduceMul,Nat.reduceBEq,Nat.reduceBNe,Nat.reducePow,Int.reduceToNat,Int.reduceLE,Int.reduceLT,Int.reduceMul,Int.reduceEq,Int.reducePow,Int.reduceAdd,Int.reduceSub,Int.reduceNeg,reduceCtorEq,bj,Tryz.results35,k2,ha',hCl]) | (with_reducible refine hK _ ?_;clear hK K) | ((with_reducible first | refine aG ?_ ?_ | refine ag ?_ ?_);(· decide)) | (with_reducible refine ah (hat) ?_))
    exact bL (L:=[0,3]) (by simp only [go_sem,↓reduceIte,Nat.reduceEqDiff,Nat.reduceLT,Nat.reduceLeDiff,Nat.reduceAdd,Nat.reduceSub,Nat.reduceMul,Nat.reduceBEq,Nat.reduceBNe,Nat.reducePow,Int.reduceToNat,Int.reduceLE,Int.reduceLT,Int.reduceMul,Int.reduceEq,Int.reducePow,Int.reduceAdd,Int.reduceSub,Int.reduceNeg,reduceCtorEq,h1,k2];try exact rfl) (key () trivial)
  ·have h1 : l1 = ls:=by rw [hgd,if_neg fun e=>k2 e.1]
   have k2' : (k = 2) = False:=eq_false k2
   repeat' (first | (with_reducible refine hY _ ?_;clear hY Y) | ((with_reducible first | refine an rfl (ar fun K' hK'=>aa ?_) | refine hK' _ (ab fun Y hY=>aa ?_) | refine bl rfl (ab fun Y hY=>aa ?_) | refine ab fun Y hY=>aa ?_ | refine aa ?_);(try clear hK' K');(try dsimp only [aop]);try simp only [go_sem,↓reduceIte,Nat.reduceEqDiff,Nat.reduceLT,Nat.reduceLeDiff,Nat.reduceAdd,Nat.reduceSub,Nat.reduceMul,Nat.reduceBEq,Nat.reduceBNe,Nat.reducePow,Int.reduceToNat,Int.reduceLE,Int.reduceLT,Int.reduceMul,Int.reduceEq,Int.reducePow,Int.reduceAdd,Int.reduceSub,Int.reduceNeg,reduceCtorEq,bj,Tryz.results35,k2',hCl]) | (with_reducible first | refine af ?_ | refine bh rfl ?_ | refine cS ?_ ?_ | refine ai ?_ | refine ay fun K hK=>?_ | refine aq ?_ | refine av ?_) | ((with_reducible refine cq 3 ?_ ?_);(· rfl)) | ((with_reducible refine bD 3 tk0 bj ?_ (ab fun Y hY=>aa ?_));(· rfl);(try dsimp only [aop]);try simp only [go_sem,↓reduceIte,Nat.reduceEqDiff,Nat.reduceLT,Nat.reduceLeDiff,Nat.reduceAdd,Nat.reduceSub,Nat.reduceMul,Nat.reduceBEq,Nat.reduceBNe,Nat.reducePow,Int.reduceToNat,Int.reduceLE,Int.reduceLT,Int.reduceMul,Int.reduceEq,Int.reducePow,Int.reduceAdd,Int.reduceSub,Int.reduceNeg,reduceCtorEq,bj,Tryz.results35,k2',hCl]) | (with_reducible refine hK _ ?_;clear hK K) | ((with_reducible first | refine aG ?_ ?_ | refine ag ?_ ?_);(· decide)))
   exact bL (L:=[0,3]) (by simp only [go_sem,↓reduceIte,Nat.reduceEqDiff,Nat.reduceLT,Nat.reduceLeDiff,Nat.reduceAdd,Nat.reduceSub,Nat.reduceMul,Nat.reduceBEq,Nat.reduceBNe,Nat.reducePow,Int.reduceToNat,Int.reduceLE,Int.reduceLT,Int.reduceMul,Int.reduceEq,Int.reducePow,Int.reduceAdd,Int.reduceSub,Int.reduceNeg,reduceCtorEq,h1];try exact rfl) (key () trivial)
 case key =>
 rintro _ _
 clear hat hCl hgd hlg
 have h0 : g5 (ks.drop 0) l1 = g5 ks l1:=by rw [List.drop_zero]
 have hb2 : l1.length + dJ (ks.drop 0)≤1000000:=by rw [List.drop_zero];omega
 generalize g5 ks l1 = R at *
 repeat' (first | (with_reducible refine hY _ ?_;clear hY Y) | ((with_reducible first | refine an rfl (ar fun K' hK'=>aa ?_) | refine hK' _ (ab fun Y hY=>aa ?_) | refine ae tk0 bj (ab fun Y hY=>aa ?_));(try clear hK' K');(try dsimp only [aop]);try simp only [go_sem,↓reduceIte,Nat.reduceEqDiff,Nat.reduceLT,Nat.reduceLeDiff,Nat.reduceAdd,Nat.reduceSub,Nat.reduceMul,Nat.reduceBEq,Nat.reduceBNe,Nat.reducePow,Int.reduceToNat,Int.reduceLE,Int.reduceLT,Int.reduceMul,Int.reduceEq,Int.reducePow,Int.reduceAdd,Int.reduceSub,Int.reduceNeg,reduceCtorEq,bj,Tryz.results35]) | (with_reducible first | refine af ?_ | refine ai ?_ | refine aj ?_ | refine ay fun K hK=>?_ | refine al ?_ | refine bG ?_) | (with_reducible refine hK _ ?_;clear hK K))
 refine bK (α:=Nat × List Ln) (fun a=>[(0,.loc 20000 0),(30,.sl (cD ks) ks.length .none),(31,inA (ks.length : Int)),(32,inA (a.1 : Int)),(20000,mkB N a.2 cs),(20001,.bt a.2.length 24),(20002,.bt cs.length 41)])
  (fun a=>a.1≤ks.length∧a.2.length + dJ (ks.drop a.1)≤1000000∧(∀ o ∈ a.2,Lg o.t)∧g5 (ks.drop a.1) a.2 = R) (fun a=>ks.length - a.1) (0,l1) [0,30,31,32] ?_ ⟨Nat.zero_le _,hb2,hgl,h0⟩ ?_
 ·simp only [go_sem,↓reduceIte,Nat.reduceEqDiff,Nat.reduceLT,Nat.reduceLeDiff,Nat.reduceAdd,Nat.reduceSub,Nat.reduceMul,Nat.reduceBEq,Nat.reduceBNe,Nat.reducePow,Int.reduceToNat,Int.reduceLE,Int.reduceLT,Int.reduceMul,Int.reduceEq,Int.reducePow,Int.reduceAdd,Int.reduceSub,Int.reduceNeg,reduceCtorEq] <;> rfl
 clear h0 hb2 hgl hb hg1
 rintro ⟨i,l2⟩ ⟨hi,hb3,hg3,hR⟩ ih
 simp only at hi hb3 hg3 hR ih ⊢
 by_cases hlt : i < ks.length
 ·have hlt' : ((i : Int) < (ks.length : Int)) = True:=eq_true (by omega)
  have hkw:=cf (n:=i) (by omega)
  have hg0:=fN hlt
  have hfl:=dC ks
  rw [List.drop_eq_getElem_cons hlt,dJ] at hb3
  rw [List.drop_eq_getElem_cons hlt,g5] at hR
  have hc:=IH ks[i] (List.getElem_mem hlt) l2 (by omega) hg3
  have hln:=jh ks[i] l2
  have hlg3:=lW ks[i] l2 (iu hoks _ (List.getElem_mem hlt)) hg3
  have ih':=ih (i + 1,c8 ks[i] l2) ⟨by simp only;omega,by simp only;omega,hlg3,hR⟩ (by simp only;omega)
  simp only at ih'
  clear ih IH hR hln hlg3 hg3
  generalize c8 ks[i] l2 = l3 at *
  generalize ks[i] = f at *
  obtain ⟨fk,⟨fc,ft⟩,fks⟩:=f
  rw [ky] at hg0 hc
  repeat' (first | (with_reducible refine hY _ ?_;clear hY Y) | ((with_reducible first | refine an rfl (ar fun K' hK'=>aa ?_) | refine hK' _ (ab fun Y hY=>aa ?_) | refine ab fun Y hY=>aa ?_ | refine ae tk0 bj (ab fun Y hY=>aa ?_) | refine aa ?_);(try clear hK' K');(try dsimp only [aop]);try simp only [go_sem,↓reduceIte,Nat.reduceEqDiff,Nat.reduceLT,Nat.reduceLeDiff,Nat.reduceAdd,Nat.reduceSub,Nat.reduceMul,Nat.reduceBEq,Nat.reduceBNe,Nat.reducePow,Int.reduceToNat,Int.reduceLE,Int.reduceLT,Int.reduceMul,Int.reduceEq,Int.reducePow,Int.reduceAdd,Int.reduceSub,Int.reduceNeg,reduceCtorEq,bj,Tryz.results35,hlt',hkw,hg0,hfl]) | (with_reducible first | refine af ?_ | refine ai ?_ | refine aj ?_ | refine ay fun K hK=>?_ | refine ap ?_ | refine aU ?_ | refine al ?_ | refine av ?_) | (with_reducible refine hK _ ?_;clear hK K) | ((with_reducible refine ag ?_ ?_);(· decide)) | (with_reducible refine bp ?_ ?_;(· (try and_intros) <;> first | omega | assumption | (simp only [List.length_append,List.length_map,List.length_cons,List.length_nil] <;> omega))) | (with_reducible refine ah (hc) ?_))
  refine bi [0,30,31,32] (by simp only [go_sem,↓reduceIte,Nat.reduceEqDiff,Nat.reduceLT,Nat.reduceLeDiff,Nat.reduceAdd,Nat.reduceSub,Nat.reduceMul,Nat.reduceBEq,Nat.reduceBNe,Nat.reducePow,Int.reduceToNat,Int.reduceLE,Int.reduceLT,Int.reduceMul,Int.reduceEq,Int.reducePow,Int.reduceAdd,Int.reduceSub,Int.reduceNeg,reduceCtorEq];exact rfl) ?_
  exact ih'
 ·have hlt' : ((i : Int) < (ks.length : Int)) = False:=eq_false (by omega)
  obtain rfl : l2 = R:=by rw [← hR,List.drop_eq_nil_of_le (by omega),g5]
  clear ih IH hR
  repeat' (first | (with_reducible refine hY _ ?_;clear hY Y) | ((with_reducible first | refine an rfl (ar fun K' hK'=>aa ?_) | refine hK' _ (ab fun Y hY=>aa ?_) | refine ab fun Y hY=>aa ?_ | refine ae tk0 bj (ab fun Y hY=>aa ?_) | refine aa ?_ | refine iS ?_);(try clear hK' K');(try dsimp only [aop]);try simp only [go_sem,↓reduceIte,Nat.reduceEqDiff,Nat.reduceLT,Nat.reduceLeDiff,Nat.reduceAdd,Nat.reduceSub,Nat.reduceMul,Nat.reduceBEq,Nat.reduceBNe,Nat.reducePow,Int.reduceToNat,Int.reduceLE,Int.reduceLT,Int.reduceMul,Int.reduceEq,Int.reducePow,Int.reduceAdd,Int.reduceSub,Int.reduceNeg,reduceCtorEq,bj,Tryz.results35,hlt']) | (with_reducible first | refine af ?_ | refine ai ?_ | refine aj ?_ | refine ay fun K hK=>?_ | refine aq ?_ | refine bC ?_ | refine bg ?_ | refine bf ?_) | (with_reducible refine hK _ ?_;clear hK K) | ((with_reducible refine ag ?_ ?_);(· decide)))
end Go.Proofs.YtmpdocplcgbpkaaGreatDoor
