/- Cut in K: forms, steps as trees; the small functions; sound forms. Formulas as data, in K; what is computed of them. Forms and rows of numbers, read as arguments. Structs of many fields, read as arguments (printed by gen_struct.py). No program is in sight. Formulas, read as arguments. -/
import Derived.Test.YtmpdocplcgbpkaaGreatDoorZ0
import Derived.Test.YtmpdocplcgbpkaaGreatDoorZ7
import Derived.Test.YtmpdocplcgbpkaaGreatDoorZ8
namespace Go.Proofs.YtmpdocplcgbpkaaGreatDoor
set_option linter.unusedSimpArgs false
set_option linter.unusedVariables false
open Go.RowKit
abbrev tmA (m : Tm) : List AV:=[inA m.1,inA m.2]
abbrev lnA (l : Ln) : List AV:=[inA l.c,.sl (aJ l.t) l.t.length .none]
abbrev gB (ls : List Ln) : AV:=.sl (ls.flatMap lnA) ls.length .none
abbrev m6 (s : Stp) : List AV:=[.sl (aJ s.parts) s.parts.length .none,inA s.div]
abbrev kN (ss : List Stp) : AV:=.sl (ss.flatMap m6) ss.length .none
def Lg {α : Type} (l : List α) : Prop:=l.length≤140737488351232
theorem cf {n : Nat} (h : n≤140737488351232) : IntKind.i64.wrap ((n : Int) + 1) = ((n + 1 : Nat) : Int):=by rw [aY (by omega) (by omega)];rfl
theorem ec : ∀ M : List Tm,aJ M = M.flatMap tmA
 | []=>rfl
 | m :: r=>by rw [aJ,ec r,List.flatMap_cons];rfl
theorem cl (M : List Tm) : (aJ M).length = M.length * 2:=by rw [ec];exact kY (f:=tmA) (k:=2) (fun _=>rfl) M
theorem iC : ∀ a b : List Tm,aJ (a ++ b) = aJ a ++ aJ b:=fun a b=>by rw [ec,ec,ec,List.flatMap_append]
theorem ez {M : List Tm} {i : Nat} (h : i < M.length) : ((aJ M).drop (i * 2)).take 2 = [inA M[i].1,inA M[i].2]:=by rw [ec];exact lE (f:=tmA) (fun _=>rfl) h
theorem tb {M : List Tm} {i : Nat} (h : i < M.length) : (aJ M).getD (i * 2) .u = inA M[i].1:=by rw [ec];exact oX (f:=tmA) (fun _=>rfl) h (by decide)
theorem tc {M : List Tm} {i : Nat} (h : i < M.length) : (aJ M).getD (i * 2 + 1) .u = inA M[i].2:=by rw [ec];exact sc (f:=tmA) (fun _=>rfl) h 1 (by decide)
theorem ei (ls : List Ln) : (ls.flatMap lnA).length = ls.length * 2:=kY (f:=lnA) (k:=2) (fun _=>rfl) ls
theorem jo {ls : List Ln} {i : Nat} (h : i < ls.length) : ((ls.flatMap lnA).drop (i * 2)).take 2 = [inA ls[i].c,.sl (aJ ls[i].t) ls[i].t.length .none]:=lE (f:=lnA) (fun _=>rfl) h
theorem ra (ls : List Stp) : (ls.flatMap m6).length = ls.length * 2:=kY (f:=m6) (k:=2) (fun _=>rfl) ls
theorem zz {ls : List Stp} {i : Nat} (h : i < ls.length) : ((ls.flatMap m6).drop (i * 2)).take 2 = [.sl (aJ ls[i].parts) ls[i].parts.length .none,inA ls[i].div]:=lE (f:=m6) (fun _=>rfl) h
theorem vj {ls : List Stp} {i : Nat} (h : i < ls.length) : (ls.flatMap m6).getD (i * 2) .u = .sl (aJ ls[i].parts) ls[i].parts.length .none:=oX (f:=m6) (fun _=>rfl) h (by decide)
theorem pw (f : AV→AV) (hf : ∀ v,f (.c v) = .c v) : ∀ M : List Tm,(aJ M).map f = aJ M
 | []=>rfl
 | m :: r=>by rw [aJ,List.map_cons,List.map_cons,hf,hf,pw f hf r]
@[go_sem] theorem z7 (g : List (Nat × Nat)) (k : Nat) (M : List Tm) : (aJ M).map (ren g (k + 1)) = aJ M:=pw _ (fun v=>rfl) M
@[go_sem] theorem Ap (ex : List Nat) (σ : bv) (k : Nat) (M : List Tm) : (aJ M).map (eX ex σ (k + 1)) = aJ M:=pw _ (fun v=>rfl) M
@[go_sem] theorem pA (tk : Bool) (k : Nat) : ∀ M : List Tm,(aJ M).flatMap (fJ tk (k + 1)) = []
 | []=>rfl
 | m :: r=>by rw [aJ,List.flatMap_cons,List.flatMap_cons,pA tk k r];rfl
theorem AX (g : List (Nat × Nat)) (M : List Tm) : (aJ M).map (ren g 4) = aJ M:=z7 g 3 M
theorem x3 (ex : List Nat) (σ : bv) (M : List Tm) : (aJ M).map (eX ex σ 4) = aJ M:=Ap ex σ 3 M
theorem wN (tk : Bool) (M : List Tm) : (aJ M).flatMap (fJ tk 4) = []:=pA tk 3 M
theorem wM (tk : Bool) (M : List Tm) : (aJ M).flatMap (fJ tk 3) = []:=pA tk 2 M
theorem AW (g : List (Nat × Nat)) (M : List Tm) : (aJ M).map (ren g 3) = aJ M:=z7 g 2 M
@[go_sem] theorem qq (b k : Nat) : ∀ M : List Tm,(aJ M).any (cy b (k + 1)) = false
 | []=>rfl
 | m :: r=>by rw [aJ,List.any_cons,List.any_cons,qq b k r];rfl
theorem uB (b : Nat) (M : List Tm) : (aJ M).any (cy b 4) = false:=qq b 3 M
attribute [go_sem] uB AX x3 wN wM AW
theorem oT : b9 1 = .ifc 50 (.c (.int .i64 1)):=rfl
theorem gZ : b9 2 = .ifc 50 (.c (.int .i64 2)):=rfl
theorem mo : b9 3 = .ifc 50 (.c (.int .i64 3)):=rfl
theorem di : b9 5 = .ifc 50 (.c (.int .i64 5)):=rfl
theorem An : b9 8 = .ifc 50 (.c (.int .i64 8)):=rfl
def db : Nat→List Nat
 | 0=>[0]
 | 1=>[0]
 | _=>[]
theorem oU (k : Int) : AFn Tryz.prog 110 [inA k] [] (.c (.bool (cX k))) []:=by
 by_cases h1 : -1073741824≤k
 ·by_cases h2 : k≤1073741824
  ·rw [show cX k = true from coefB_iff.2 ⟨h1,h2⟩]
   refine aD [] Tryz.func110 rfl Tryz.ntmps110 (Nat.le_of_ble_eq_true rfl) (Nat.le_of_ble_eq_true rfl) fun w0 G0 B0 Pr hB0=>?_
   simp only [aO,aA,List.cons_append,List.nil_append]
   repeat' (first | (with_reducible refine hY _ ?_;clear hY Y) | ((with_reducible first | refine an rfl (ar fun K' hK'=>aa ?_) | refine hK' _ (ab fun Y hY=>aa ?_) | refine bl rfl (ab fun Y hY=>aa ?_) | refine ab fun Y hY=>aa ?_ | refine ar fun K' hK'=>aa ?_ | refine ae tk0 db (ab fun Y hY=>aa ?_) | refine aa ?_ | refine ao ?_);(try clear hK' K');(try dsimp only [aop]);try simp only [go_sem,↓reduceIte,Nat.reduceEqDiff,Nat.reduceLT,Nat.reduceLeDiff,Nat.reduceAdd,Nat.reduceSub,Nat.reduceMul,Nat.reduceBEq,Nat.reduceBNe,Nat.reducePow,Int.reduceToNat,Int.reduceLE,Int.reduceLT,Int.reduceMul,Int.reduceEq,Int.reducePow,Int.reduceAdd,Int.reduceSub,Int.reduceNeg,reduceCtorEq,db,Tryz.results110,h1,h2]) | (with_reducible first | refine af ?_ | refine aL ?_ | refine ai ?_ | refine aj ?_ | refine ay fun K hK=>?_ | refine au ?_) | (with_reducible refine hK _ ?_;clear hK K) | ((with_reducible refine aG ?_ ?_);(· decide)))
  ·rw [show cX k = false by unfold cX;simp [h2]]
   refine aD [] Tryz.func110 rfl Tryz.ntmps110 (Nat.le_of_ble_eq_true rfl) (Nat.le_of_ble_eq_true rfl) fun w0 G0 B0 Pr hB0=>?_
   simp only [aO,aA,List.cons_append,List.nil_append]
   repeat' (first | (with_reducible refine hY _ ?_;clear hY Y) | ((with_reducible first | refine an rfl (ar fun K' hK'=>aa ?_) | refine hK' _ (ab fun Y hY=>aa ?_) | refine bl rfl (ab fun Y hY=>aa ?_) | refine ab fun Y hY=>aa ?_ | refine ar fun K' hK'=>aa ?_ | refine ae tk0 db (ab fun Y hY=>aa ?_) | refine aa ?_ | refine ao ?_);(try clear hK' K');(try dsimp only [aop]);try simp only [go_sem,↓reduceIte,Nat.reduceEqDiff,Nat.reduceLT,Nat.reduceLeDiff,Nat.reduceAdd,Nat.reduceSub,Nat.reduceMul,Nat.reduceBEq,Nat.reduceBNe,Nat.reducePow,Int.reduceToNat,Int.reduceLE,Int.reduceLT,Int.reduceMul,Int.reduceEq,Int.reducePow,Int.reduceAdd,Int.reduceSub,Int.reduceNeg,reduceCtorEq,db,Tryz.results110,h1,h2]) | (with_reducible first | refine af ?_ | refine aL ?_ | refine ai ?_ | refine aj ?_ | refine ay fun K hK=>?_ | refine au ?_) | (with_reducible refine hK _ ?_;clear hK K) | ((with_reducible refine aG ?_ ?_);(· decide)))
 ·rw [show cX k = false by unfold cX;simp [h1]]
  refine aD [] Tryz.func110 rfl Tryz.ntmps110 (Nat.le_of_ble_eq_true rfl) (Nat.le_of_ble_eq_true rfl) fun w0 G0 B0 Pr hB0=>?_
  simp only [aO,aA,List.cons_append,List.nil_append]
  repeat' (first | (with_reducible refine hY _ ?_;clear hY Y) | ((with_reducible first | refine an rfl (ar fun K' hK'=>aa ?_) | refine hK' _ (ab fun Y hY=>aa ?_) | refine bl rfl (ab fun Y hY=>aa ?_) | refine ab fun Y hY=>aa ?_ | refine ae tk0 db (ab fun Y hY=>aa ?_) | refine aa ?_ | refine ao ?_);(try clear hK' K');(try dsimp only [aop]);try simp only [go_sem,↓reduceIte,Nat.reduceEqDiff,Nat.reduceLT,Nat.reduceLeDiff,Nat.reduceAdd,Nat.reduceSub,Nat.reduceMul,Nat.reduceBEq,Nat.reduceBNe,Nat.reducePow,Int.reduceToNat,Int.reduceLE,Int.reduceLT,Int.reduceMul,Int.reduceEq,Int.reducePow,Int.reduceAdd,Int.reduceSub,Int.reduceNeg,reduceCtorEq,db,Tryz.results110,h1]) | (with_reducible first | refine af ?_ | refine bh rfl ?_ | refine cS ?_ ?_ | refine ai ?_ | refine aj ?_ | refine ay fun K hK=>?_ | refine au ?_) | (with_reducible refine hK _ ?_;clear hK K) | ((with_reducible refine aG ?_ ?_);(· decide)))
def cQ : Nat→List Nat
 | 0=>[0]
 | 1=>[0]
 | _=>[]
theorem sZ (k : Int) : AFn Tryz.prog 111 [inA k] [] (.c (.bool (kT k))) []:=by
 by_cases h1 : 0≤k
 ·by_cases h2 : k < 1048576
  ·rw [show kT k = true by unfold kT;simp [h1,h2]]
   refine aD [] Tryz.func111 rfl Tryz.ntmps111 (Nat.le_of_ble_eq_true rfl) (Nat.le_of_ble_eq_true rfl) fun w0 G0 B0 Pr hB0=>?_
   simp only [aO,aA,List.cons_append,List.nil_append]
   repeat' (first | (with_reducible refine hY _ ?_;clear hY Y) | ((with_reducible first | refine an rfl (ar fun K' hK'=>aa ?_) | refine hK' _ (ab fun Y hY=>aa ?_) | refine bl rfl (ab fun Y hY=>aa ?_) | refine ab fun Y hY=>aa ?_ | refine ar fun K' hK'=>aa ?_ | refine ae tk0 cQ (ab fun Y hY=>aa ?_) | refine aa ?_ | refine ao ?_);(try clear hK' K');(try dsimp only [aop]);try simp only [go_sem,↓reduceIte,Nat.reduceEqDiff,Nat.reduceLT,Nat.reduceLeDiff,Nat.reduceAdd,Nat.reduceSub,Nat.reduceMul,Nat.reduceBEq,Nat.reduceBNe,Nat.reducePow,Int.reduceToNat,Int.reduceLE,Int.reduceLT,Int.reduceMul,Int.reduceEq,Int.reducePow,Int.reduceAdd,Int.reduceSub,Int.reduceNeg,reduceCtorEq,cQ,Tryz.results111,h1,h2]) | (with_reducible first | refine af ?_ | refine aL ?_ | refine ai ?_ | refine aj ?_ | refine ay fun K hK=>?_ | refine au ?_) | (with_reducible refine hK _ ?_;clear hK K) | ((with_reducible refine aG ?_ ?_);(· decide)))
  ·rw [show kT k = false by unfold kT;simp [h2]]
   refine aD [] Tryz.func111 rfl Tryz.ntmps111 (Nat.le_of_ble_eq_true rfl) (Nat.le_of_ble_eq_true rfl) fun w0 G0 B0 Pr hB0=>?_
   simp only [aO,aA,List.cons_append,List.nil_append]
   repeat' (first | (with_reducible refine hY _ ?_;clear hY Y) | ((with_reducible first | refine an rfl (ar fun K' hK'=>aa ?_) | refine hK' _ (ab fun Y hY=>aa ?_) | refine bl rfl (ab fun Y hY=>aa ?_) | refine ab fun Y hY=>aa ?_ | refine ar fun K' hK'=>aa ?_ | refine ae tk0 cQ (ab fun Y hY=>aa ?_) | refine aa ?_ | refine ao ?_);(try clear hK' K');(try dsimp only [aop]);try simp only [go_sem,↓reduceIte,Nat.reduceEqDiff,Nat.reduceLT,Nat.reduceLeDiff,Nat.reduceAdd,Nat.reduceSub,Nat.reduceMul,Nat.reduceBEq,Nat.reduceBNe,Nat.reducePow,Int.reduceToNat,Int.reduceLE,Int.reduceLT,Int.reduceMul,Int.reduceEq,Int.reducePow,Int.reduceAdd,Int.reduceSub,Int.reduceNeg,reduceCtorEq,cQ,Tryz.results111,h1,h2]) | (with_reducible first | refine af ?_ | refine aL ?_ | refine ai ?_ | refine aj ?_ | refine ay fun K hK=>?_ | refine au ?_) | (with_reducible refine hK _ ?_;clear hK K) | ((with_reducible refine aG ?_ ?_);(· decide)))
 ·rw [show kT k = false by unfold kT;simp [h1]]
  refine aD [] Tryz.func111 rfl Tryz.ntmps111 (Nat.le_of_ble_eq_true rfl) (Nat.le_of_ble_eq_true rfl) fun w0 G0 B0 Pr hB0=>?_
  simp only [aO,aA,List.cons_append,List.nil_append]
  repeat' (first | (with_reducible refine hY _ ?_;clear hY Y) | ((with_reducible first | refine an rfl (ar fun K' hK'=>aa ?_) | refine hK' _ (ab fun Y hY=>aa ?_) | refine bl rfl (ab fun Y hY=>aa ?_) | refine ab fun Y hY=>aa ?_ | refine ae tk0 cQ (ab fun Y hY=>aa ?_) | refine aa ?_ | refine ao ?_);(try clear hK' K');(try dsimp only [aop]);try simp only [go_sem,↓reduceIte,Nat.reduceEqDiff,Nat.reduceLT,Nat.reduceLeDiff,Nat.reduceAdd,Nat.reduceSub,Nat.reduceMul,Nat.reduceBEq,Nat.reduceBNe,Nat.reducePow,Int.reduceToNat,Int.reduceLE,Int.reduceLT,Int.reduceMul,Int.reduceEq,Int.reducePow,Int.reduceAdd,Int.reduceSub,Int.reduceNeg,reduceCtorEq,cQ,Tryz.results111,h1]) | (with_reducible first | refine af ?_ | refine bh rfl ?_ | refine cS ?_ ?_ | refine ai ?_ | refine aj ?_ | refine ay fun K hK=>?_ | refine au ?_) | (with_reducible refine hK _ ?_;clear hK K) | ((with_reducible refine aG ?_ ?_);(· decide)))
def dg : Nat→List Nat
 | 0=>[0]
 | 1=>[0]
 | _=>[]
theorem zR (k : Int) : AFn Tryz.prog 129 [inA k] [] (.c (.bool (jR k))) []:=by
 by_cases h1 : k < -4398046511104
 ·rw [show jR k = true by unfold jR;simp [h1]]
  refine aD [] Tryz.func129 rfl Tryz.ntmps129 (Nat.le_of_ble_eq_true rfl) (Nat.le_of_ble_eq_true rfl) fun w0 G0 B0 Pr hB0=>?_
  simp only [aO,aA,List.cons_append,List.nil_append]
  repeat' (first | (with_reducible refine hY _ ?_;clear hY Y) | ((with_reducible first | refine an rfl (ar fun K' hK'=>aa ?_) | refine hK' _ (ab fun Y hY=>aa ?_) | refine bl rfl (ab fun Y hY=>aa ?_) | refine ab fun Y hY=>aa ?_ | refine ae tk0 dg (ab fun Y hY=>aa ?_) | refine aa ?_ | refine ao ?_);(try clear hK' K');(try dsimp only [aop]);try simp only [go_sem,↓reduceIte,Nat.reduceEqDiff,Nat.reduceLT,Nat.reduceLeDiff,Nat.reduceAdd,Nat.reduceSub,Nat.reduceMul,Nat.reduceBEq,Nat.reduceBNe,Nat.reducePow,Int.reduceToNat,Int.reduceLE,Int.reduceLT,Int.reduceMul,Int.reduceEq,Int.reducePow,Int.reduceAdd,Int.reduceSub,Int.reduceNeg,reduceCtorEq,dg,Tryz.results129,h1]) | (with_reducible first | refine af ?_ | refine bh rfl ?_ | refine cS ?_ ?_ | refine ai ?_ | refine aj ?_ | refine ay fun K hK=>?_ | refine au ?_) | (with_reducible refine hK _ ?_;clear hK K) | ((with_reducible refine aG ?_ ?_);(· decide)))
 ·by_cases h2 : 4398046511104 < k
  ·rw [show jR k = true by unfold jR;simp [h2]]
   refine aD [] Tryz.func129 rfl Tryz.ntmps129 (Nat.le_of_ble_eq_true rfl) (Nat.le_of_ble_eq_true rfl) fun w0 G0 B0 Pr hB0=>?_
   simp only [aO,aA,List.cons_append,List.nil_append]
   repeat' (first | (with_reducible refine hY _ ?_;clear hY Y) | ((with_reducible first | refine an rfl (ar fun K' hK'=>aa ?_) | refine hK' _ (ab fun Y hY=>aa ?_) | refine bl rfl (ab fun Y hY=>aa ?_) | refine ab fun Y hY=>aa ?_ | refine ar fun K' hK'=>aa ?_ | refine ae tk0 dg (ab fun Y hY=>aa ?_) | refine aa ?_ | refine ao ?_);(try clear hK' K');(try dsimp only [aop]);try simp only [go_sem,↓reduceIte,Nat.reduceEqDiff,Nat.reduceLT,Nat.reduceLeDiff,Nat.reduceAdd,Nat.reduceSub,Nat.reduceMul,Nat.reduceBEq,Nat.reduceBNe,Nat.reducePow,Int.reduceToNat,Int.reduceLE,Int.reduceLT,Int.reduceMul,Int.reduceEq,Int.reducePow,Int.reduceAdd,Int.reduceSub,Int.reduceNeg,reduceCtorEq,dg,Tryz.results129,h1,h2]) | (with_reducible first | refine af ?_ | refine aL ?_ | refine ai ?_ | refine aj ?_ | refine ay fun K hK=>?_ | refine au ?_) | (with_reducible refine hK _ ?_;clear hK K) | ((with_reducible refine aG ?_ ?_);(· decide)))
  ·rw [show jR k = false by unfold jR;simp [h1,h2]]
   refine aD [] Tryz.func129 rfl Tryz.ntmps129 (Nat.le_of_ble_eq_true rfl) (Nat.le_of_ble_eq_true rfl) fun w0 G0 B0 Pr hB0=>?_
   simp only [aO,aA,List.cons_append,List.nil_append]
   repeat' (first | (with_reducible refine hY _ ?_;clear hY Y) | ((with_reducible first | refine an rfl (ar fun K' hK'=>aa ?_) | refine hK' _ (ab fun Y hY=>aa ?_) | refine bl rfl (ab fun Y hY=>aa ?_) | refine ab fun Y hY=>aa ?_ | refine ar fun K' hK'=>aa ?_ | refine ae tk0 dg (ab fun Y hY=>aa ?_) | refine aa ?_ | refine ao ?_);(try clear hK' K');(try dsimp only [aop]);try simp only [go_sem,↓reduceIte,Nat.reduceEqDiff,Nat.reduceLT,Nat.reduceLeDiff,Nat.reduceAdd,Nat.reduceSub,Nat.reduceMul,Nat.reduceBEq,Nat.reduceBNe,Nat.reducePow,Int.reduceToNat,Int.reduceLE,Int.reduceLT,Int.reduceMul,Int.reduceEq,Int.reducePow,Int.reduceAdd,Int.reduceSub,Int.reduceNeg,reduceCtorEq,dg,Tryz.results129,h1,h2]) | (with_reducible first | refine af ?_ | refine aL ?_ | refine ai ?_ | refine aj ?_ | refine ay fun K hK=>?_ | refine au ?_) | (with_reducible refine hK _ ?_;clear hK K) | ((with_reducible refine aG ?_ ?_);(· decide)))
end Go.Proofs.YtmpdocplcgbpkaaGreatDoor
namespace Go.Proofs.YtmpdocplcgbpkaaGreatDoor
set_option linter.unusedSimpArgs false
set_option linter.unusedVariables false
open Go.RowKit
inductive Fo where
 | mk (k : Int) (l : Ln) (ks : List Fo)
def Fo.kind : Fo→Int
 | .mk k _ _=>k
def Fo.kids : Fo→List Fo
 | .mk _ _ ks=>ks
instance : Inhabited Fo:=⟨.mk 0 ⟨0,[]⟩ []⟩
mutual
def foA : Fo→List AV
 | .mk k l ks=>[inA k,inA l.c,.sl (aJ l.t) l.t.length .none,.sl (cD ks) ks.length .none]
def cD : List Fo→List AV
 | []=>[]
 | f :: r=>foA f ++ cD r
end
theorem oY : ∀ f,(foA f).length = 4
 | .mk k l ks=>by simp [foA]
theorem jD : ∀ l : List Fo,cD l = l.flatMap foA
 | []=>rfl
 | f :: r=>by rw [cD,jD r,List.flatMap_cons]
theorem dC (l : List Fo) : (cD l).length = l.length * 4:=by rw [jD];exact kY oY l
theorem fN {l : List Fo} {i : Nat} (h : i < l.length) : ((cD l).drop (i * 4)).take 4 = foA l[i]:=by rw [jD];exact lE oY h
mutual
def OkF : Fo→Prop
 | .mk _ l ks=>Lg l.t∧Lg ks∧jZ ks
def jZ : List Fo→Prop
 | []=>True
 | f :: r=>OkF f∧jZ r
end
theorem iu : ∀ {l : List Fo},jZ l→∀ f ∈ l,OkF f
 | [],_=>fun f h=>absurd h List.not_mem_nil
 | a :: l,h=>fun f hf=>by
  rcases List.mem_cons.1 hf with rfl | hf
  ·exact h.1
  ·exact iu h.2 f hf
theorem pC : ∀ {l : List Fo},(∀ f ∈ l,OkF f)→jZ l
 | [],_=>trivial
 | a :: l,h=>⟨h a (by simp),pC fun f hf=>h f (by simp [hf])⟩
mutual
theorem iH {P : Fo→Prop} (step : ∀ k l ks,Lg l.t→Lg ks→jZ ks→(∀ f ∈ ks,P f)→P (.mk k l ks)) : ∀ f,OkF f→P f
 | .mk k l ks,h=>step k l ks h.1 h.2.1 h.2.2 (th step ks h.2.2)
theorem th {P : Fo→Prop} (step : ∀ k l ks,Lg l.t→Lg ks→jZ ks→(∀ f ∈ ks,P f)→P (.mk k l ks)) : ∀ ks,jZ ks→∀ f ∈ ks,P f
 | [],_=>fun f h=>absurd h List.not_mem_nil
 | a :: r,h=>fun f hf=>(List.mem_cons.1 hf).elim (fun e=>e ▸ iH step a h.1) (th step r h.2 f)
end
def fX : Nat→Fo→Bool
 | 0,_=>true
 | b + 1,f=>f.kids.any (fX b)
mutual
def tot : Fo→Nat
 | .mk _ _ ks=>dJ ks + 1
def dJ : List Fo→Nat
 | []=>0
 | f :: r=>tot f + dJ r
end
mutual
def szF : Fo→Nat
 | .mk _ _ ks=>dV ks 1
def dV : List Fo→Nat→Nat
 | [],n=>n
 | f :: r,n=>if n≤4096 then dV r (n + szF f) else n
end
mutual
theorem pO : ∀ f : Fo,(szF f≤4096→szF f = tot f)∧(4096 < szF f→4096 < tot f)
 | .mk k l ks=>by
  have h:=rn ks 1
  rw [szF,tot]
  exact ⟨fun h1=>by rw [h.1 h1];omega,fun h1=>by have:=h.2 h1;omega⟩
theorem rn : ∀ (l : List Fo) (n : Nat),(dV l n≤4096→dV l n = n + dJ l)∧(4096 < dV l n→4096 < n + dJ l)
 | [],n=>by simp [dV,dJ]
 | f :: r,n=>by
  have h1:=pO f
  rw [dV,dJ]
  split
  ·have h2:=rn r (n + szF f)
   constructor
   ·intro h3
    have h4:=h2.1 h3
    have h5:=h1.1 (by omega)
    omega
   ·intro h3
    have h4:=h2.2 h3
    by_cases h6 : szF f≤4096
    ·have:=h1.1 h6;omega
    ·have:=h1.2 (by omega);omega
  ·exact ⟨fun h3=>by omega,fun h3=>by omega⟩
end
theorem tR (b : Nat) : ∀ (l : List Fo) (n : Nat),(∀ f ∈ l,szF f≤b)→n≤4096 + b→dV l n≤4096 + b
 | [],n,_,hn=>hn
 | f :: r,n,h,hn=>by
  rw [dV]
  split
  ·have:=h f (by simp)
   exact tR b r _ (fun x hx=>h x (by simp [hx])) (by omega)
  ·exact hn
theorem xk : ∀ (b : Nat) (f : Fo),fX b f = false→szF f≤4097 * b
 | 0,f,h=>by simp [fX] at h
 | b + 1,.mk k l ks,h=>by
  rw [fX,List.any_eq_false] at h
  rw [szF]
  have:=tR (4097 * b) ks 1 (fun f hf=>xk b f (by simpa using h f hf)) (by omega)
  by_cases hb : ks = []
  ·subst hb;simp [dV];omega
  ·omega
def ge (l : Ln) : Bool:=decide (l.c = 0) && decide ((l.t.length : Int) = 0)
def okH (k : Int) (l : Ln) (n : Nat) : Bool :=
 if k = 0∨k = 1 then ge l && decide ((n : Int) = 0) else if k = 2∨k = 3 then cY l && decide ((n : Int) = 0) else if k = 4 then ge l && decide ((n : Int) = 1) else if k = 5∨k = 6 then ge l else false
mutual
def dQ : Fo→Bool
 | .mk k l ks=>okH k l ks.length && fg ks
def fg : List Fo→Bool
 | []=>true
 | f :: r=>dQ f && fg r
end
theorem j4 : ∀ l : List Fo,fg l = l.all dQ
 | []=>rfl
 | f :: r=>by rw [fg,List.all_cons,j4 r]
theorem xG {α : Type} (p : α→Bool) (l : List α) : (!l.any fun x=>!p x) = l.all p:=by
 induction l with
 | nil=>rfl
 | cons a r ih=>rw [List.any_cons,List.all_cons,← ih];cases p a <;> simp
def dP (f : Fo) : Nat:=if fX 64 f then 4 else if 4096 < szF f then 2 else if dQ f then 0 else 5
mutual
def dY : Fo→List Int
 | .mk _ l ks=>l.t.map (·.1) ++ cO ks
def cO : List Fo→List Int
 | []=>[]
 | f :: r=>dY f ++ cO r
end
mutual
theorem oz : ∀ f : Fo,dQ f = true→(dY f).length≤64 * tot f
 | .mk k l ks,h=>by
  rw [dQ,Bool.and_eq_true] at h
  have ih:=nl ks h.2
  have hl : l.t.length≤64:=by
   have h1:=h.1
   unfold okH ge at h1
   split at h1
   ·simp at h1;simp [h1.1.2]
   ·split at h1
    ·rw [Bool.and_eq_true] at h1;exact (ef h1.1).2.1
    ·split at h1
     ·simp at h1;simp [h1.1.2]
     ·split at h1
      ·simp at h1;simp [h1.2]
      ·cases h1
  rw [dY,tot,List.length_append,List.length_map];omega
theorem nl : ∀ l : List Fo,fg l = true→(cO l).length≤64 * dJ l
 | [],_=>by simp [cO]
 | f :: r,h=>by
  rw [fg,Bool.and_eq_true] at h
  have h1:=oz f h.1
  have h2:=nl r h.2
  rw [cO,dJ,List.length_append];omega
end
mutual
theorem oA : ∀ f : Fo,dQ f = true→∀ v ∈ dY f,0≤v∧v < 1048576
 | .mk k l ks,h=>by
  rw [dQ,Bool.and_eq_true] at h
  have ih:=nm ks h.2
  have hl : ∀ v ∈ l.t.map (·.1),0≤v∧v < 1048576:=by
   have h1:=h.1
   unfold okH ge at h1
   split at h1
   ·simp at h1;simp [h1.1.2]
   ·split at h1
    ·rw [Bool.and_eq_true] at h1
     intro v hv
     obtain ⟨m,hm,rfl⟩:=List.mem_map.1 hv
     have:=(ef h1.1).2.2 m hm
     exact ⟨this.1,this.2.1⟩
    ·split at h1
     ·simp at h1;simp [h1.1.2]
     ·split at h1
      ·simp at h1;simp [h1.2]
      ·cases h1
  intro v hv
  rw [dY] at hv
  rcases List.mem_append.1 hv with hv | hv
  ·exact hl v hv
  ·exact ih v hv
theorem nm : ∀ l : List Fo,fg l = true→∀ v ∈ cO l,0≤v∧v < 1048576
 | [],_=>fun v hv=>absurd hv List.not_mem_nil
 | f :: r,h=>fun v hv=>by
  rw [fg,Bool.and_eq_true] at h
  rw [cO] at hv
  rcases List.mem_append.1 hv with hv | hv
  ·exact oA f h.1 v hv
  ·exact nm r h.2 v hv
end
end Go.Proofs.YtmpdocplcgbpkaaGreatDoor
namespace Go.Proofs.YtmpdocplcgbpkaaGreatDoor
set_option linter.unusedSimpArgs false
set_option linter.unusedVariables false
open Go.RowKit Go.ChangeShapes Go.WideShapes
instance : Inhabited Ln:=⟨⟨0,[]⟩⟩
section
variable {H : Type} {enc : TypeId × Value→H} {w : World} {base : Nat} {spare : Nat→Bool} {held : Bool}
theorem nW {α : Type} {l : List α} {b : Nat} (hb : 0 < b) (h : l.length * b≤140737488351232) : Lg l:=by
 have:=Nat.le_mul_of_pos_right l.length hb
 unfold Lg;omega
theorem pF (fuel : Nat) : Reads enc Tryz.prog w base spare held 3 (fun z : Int=>[inA z]) (fun z=>-9223372036854775808≤z∧z≤9223372036854775807) fuel:=uS Tryz.underlying3 fuel
theorem zc (fuel : Nat) : Reads enc Tryz.prog w base spare held 94 tmA (fun _=>True) fuel :=
 (ed Tryz.underlying94 rfl (n0:=1) (by kernel_rfl) rfl (n1:=1) (by kernel_rfl) (by kernel_rfl) (fun n _=>pF n) (fun n _=>pF n)).map id (fun _=>rfl) fun _ _=>trivial
theorem AS (fuel : Nat) : Reads enc Tryz.prog w base spare held 24 lnA (fun l=>l.t.length≤8796093022207) fuel :=
 (ed Tryz.underlying24 rfl (n0:=1) (by kernel_rfl) rfl (n1:=1) (by kernel_rfl) (by kernel_rfl) (fun n _=>pF n)
  (fun n _=>dX Tryz.underlying22 (s:=2) (by kernel_rfl) (of_decide_eq_true (by kernel_rfl)) (by decide) (fun _=>rfl) fun n _=>zc n)).map (fun p=>(⟨p.1,p.2⟩ : Ln)) (fun p=>by show [inA p.1,AV.sl (aJ p.2) p.2.length .none] = _;rw [ec];rfl)
  fun p h=>by have:=h.2.2;rw [show Tryz.prog.bytesOf 94 = 16 by kernel_rfl] at this;simp only;omega
theorem zb (fuel : Nat) : Reads enc Tryz.prog w base spare held 41 (fun c : List Int=>[.sl (c.map inA) c.length .none]) (fun _=>True) fuel :=
 (dX Tryz.underlying41 (s:=1) (by kernel_rfl) (of_decide_eq_true (by kernel_rfl)) (by decide) (fun _=>rfl) fun n _=>pF n).map id (fun l=>by rw [← mq inA l];rfl) fun _ _=>trivial
end
end Go.Proofs.YtmpdocplcgbpkaaGreatDoor
namespace Go.Proofs.YtmpdocplcgbpkaaGreatDoor
set_option linter.unusedSimpArgs false
set_option linter.unusedVariables false
open Go.RowKit Go.ChangeShapes Go.WideShapes
section
variable {H : Type} {enc : TypeId × Value→H} {P : Program} {w : World} {base : Nat} {spare : Nat→Bool} {held : Bool}
set_option maxHeartbeats 4000000 in
theorem nz {α0 α1 α2 : Type} {t fuel n0 n1 n2 : Nat} {f0 f1 f2 : Field} {A0 : α0→List AV} {A1 : α1→List AV} {A2 : α2→List AV} {Ok0 : α0→Prop} {Ok1 : α1→Prop} {Ok2 : α2→Prop} (ht : P.underlying t = some (.struct #[f0,f1,f2])) (o0 : f0.offset = 0) (s0 : P.cellsOf f0.type = n0) (s1 : P.cellsOf f1.type = n1) (s2 : P.cellsOf f2.type = n2) (o1 : f1.offset = n0) (o2 : f2.offset = n0 + n1)  (st : P.cellsOf t = n0 + n1 + n2)
  (r0 : ∀ n,n < fuel→Reads enc P w base spare held f0.type A0 Ok0 n) (r1 : ∀ n,n < fuel→Reads enc P w base spare held f1.type A1 Ok1 n) (r2 : ∀ n,n < fuel→Reads enc P w base spare held f2.type A2 Ok2 n) :
  Reads enc P w base spare held t (fun p : α0 × α1 × α2=>A0 p.1 ++ (A1 p.2.1 ++ (A2 p.2.2))) (fun p=>Ok0 p.1∧Ok1 p.2.1∧Ok2 p.2.2) fuel:=fun cs x hx hw=>by
 obtain ⟨xs,n,hfuel,rfl,hl,hlen,hf⟩:=DataW.trod_struct ht hx
 have h0:=hf 0 f0 rfl
 have h1:=hf 1 f1 rfl
 have h2:=hf 2 f2 rfl
 match xs,hlen with
 | [y0,y1,y2],_ =>
 rw [o0,s0,List.drop_zero] at h0
 rw [o1,s1] at h1
 rw [o2,s2] at h2
 obtain ⟨a0,k0,p0⟩:=r0 n (by omega) _ _ h0 (weighs_struct ht hw 0 f0 y0.1 rfl rfl)
 obtain ⟨a1,k1,p1⟩:=r1 n (by omega) _ _ h1 (weighs_struct ht hw 1 f1 y1.1 rfl rfl)
 obtain ⟨a2,k2,p2⟩:=r2 n (by omega) _ _ h2 (weighs_struct ht hw 2 f2 y2.1 rfl rfl)
 refine ⟨(a0,a1,a2),⟨k0,k1,k2⟩,?_⟩
 have e2 : cs.drop (n0 + n1) = (cs.drop (n0 + n1)).take n2:=(List.take_of_length_le (by rw [List.length_drop];omega)).symm
 have e1 : cs.drop (n0) = (cs.drop (n0)).take n1 ++ cs.drop (n0 + n1):=by have h:=List.take_append_drop n1 (cs.drop (n0));rw [List.drop_drop] at h;exact h.symm
 have e0 : cs = cs.take n0 ++ cs.drop (n0):=(List.take_append_drop n0 cs).symm
 have q2:=p2
 rw [← e2] at q2
 have q1:=PCRel.append p1 q2
 rw [← e1] at q1
 have q0:=PCRel.append p0 q1
 rw [← e0] at q0
 exact q0
end
end Go.Proofs.YtmpdocplcgbpkaaGreatDoor
namespace Go.Proofs.YtmpdocplcgbpkaaGreatDoor
set_option linter.unusedSimpArgs false
set_option linter.unusedVariables false
open Go.RowKit Go.ChangeShapes Go.WideShapes
section
variable {H : Type} {enc : TypeId × Value→H} {w : World} {base : Nat} {spare : Nat→Bool} {held : Bool}
theorem za : ∀ fuel,Reads enc Tryz.prog w base spare held 27 foA OkF fuel:=fun fuel=>by
 induction fuel using Nat.strongRecOn with
 | _ fuel ih =>
 exact (nz Tryz.underlying27 rfl (n0:=1) (by kernel_rfl) (n1:=2) (by kernel_rfl) (n2:=1) (by kernel_rfl) rfl rfl (by kernel_rfl)
  (fun n _=>pF n) (fun n _=>AS n)
  (fun n hn=>dX Tryz.underlying25 (s:=4) (by kernel_rfl) (of_decide_eq_true (by kernel_rfl)) (by decide) oY fun m hm=>ih m (by omega))).map (fun p=>(.mk p.1 p.2.1 p.2.2 : Fo))
  (fun p=>by rw [foA,jD];rfl) fun p h=>⟨by have:=h.2.1;unfold Lg;omega,nW (of_decide_eq_true (by kernel_rfl)) h.2.2.2,pC h.2.2.1⟩
end
end Go.Proofs.YtmpdocplcgbpkaaGreatDoor
