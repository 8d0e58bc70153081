/- Normalizing in K: a quotient rounded up, an opposite. Normalizing in K: a form's literal. Normalizing in K: leaves. -/
import Derived.Test.YtmpdocplcgbpkaaGreatDoorZ16
import Derived.Test.YtmpdocplcgbpkaaGreatDoorZ18
import Derived.Test.YtmpdocplcgbpkaaGreatDoorZ8
namespace Go.Proofs.YtmpdocplcgbpkaaGreatDoor
set_option linter.unusedSimpArgs false
set_option linter.unusedVariables false
open Go.RowKit
def d4 : Nat→List Nat
 | 0=>[0,1]
 | 1=>[0,1]
 | 2=>[0,1,5]
 | 3=>[5]
 | 4=>[5]
 | _=>[]
set_option maxRecDepth 100000 in
theorem Bq (a g : Int) (hg : 1≤g∧g≤1073741824) (ha : -1125899906842624≤a∧a≤1125899906842624) : AFn Tryz.prog 119 [inA a,inA g] [] (inA (upZ a g)) []:=by
 have hb:=kQ a g
 have hg0 : (g = 0) = False:=eq_false (by omega)
 have hq : IntKind.i64.wrap (a.tdiv g) = a.tdiv g:=aY (by omega) (by omega)
 have hq1 : IntKind.i64.wrap (a.tdiv g + 1) = a.tdiv g + 1:=aY (by omega) (by omega)
 unfold upZ
 by_cases hr : 0 < a.tmod g
 ·rw [if_pos hr]
  refine aD [] Tryz.func119 rfl Tryz.ntmps119 (Nat.le_of_ble_eq_true rfl) (Nat.le_of_ble_eq_true rfl) fun w0 G0 B0 Pr hB0=>?_
  simp only [aO,aA,List.cons_append,List.nil_append]
  repeat' (first | (with_reducible refine hY _ ?_;clear hY Y) | ((with_reducible first | refine an rfl (ar fun K' hK'=>aa ?_) | refine hK' _ (ab fun Y hY=>aa ?_) | refine ab fun Y hY=>aa ?_ | refine ae tk0 d4 (ab fun Y hY=>aa ?_) | refine aa ?_ | refine ao ?_);(try clear hK' K');(try dsimp only [aop]);try simp only [go_sem,↓reduceIte,Nat.reduceEqDiff,Nat.reduceLT,Nat.reduceLeDiff,Nat.reduceAdd,Nat.reduceSub,Nat.reduceMul,Nat.reduceBEq,Nat.reduceBNe,Nat.reducePow,Int.reduceToNat,Int.reduceLE,Int.reduceLT,Int.reduceMul,Int.reduceEq,Int.reducePow,Int.reduceAdd,Int.reduceSub,Int.reduceNeg,reduceCtorEq,d4,Tryz.results119,hg0,hq,hq1,hr]) | (with_reducible first | refine af ?_ | refine ai ?_ | refine aj ?_ | refine ay fun K hK=>?_ | refine ap ?_ | refine au ?_) | (with_reducible refine hK _ ?_;clear hK K) | ((with_reducible refine ag ?_ ?_);(· decide)))
 ·rw [if_neg hr,Int.add_zero]
  refine aD [] Tryz.func119 rfl Tryz.ntmps119 (Nat.le_of_ble_eq_true rfl) (Nat.le_of_ble_eq_true rfl) fun w0 G0 B0 Pr hB0=>?_
  simp only [aO,aA,List.cons_append,List.nil_append]
  repeat' (first | (with_reducible refine hY _ ?_;clear hY Y) | ((with_reducible first | refine an rfl (ar fun K' hK'=>aa ?_) | refine hK' _ (ab fun Y hY=>aa ?_) | refine ab fun Y hY=>aa ?_ | refine ae tk0 d4 (ab fun Y hY=>aa ?_) | refine aa ?_ | refine ao ?_);(try clear hK' K');(try dsimp only [aop]);try simp only [go_sem,↓reduceIte,Nat.reduceEqDiff,Nat.reduceLT,Nat.reduceLeDiff,Nat.reduceAdd,Nat.reduceSub,Nat.reduceMul,Nat.reduceBEq,Nat.reduceBNe,Nat.reducePow,Int.reduceToNat,Int.reduceLE,Int.reduceLT,Int.reduceMul,Int.reduceEq,Int.reducePow,Int.reduceAdd,Int.reduceSub,Int.reduceNeg,reduceCtorEq,d4,Tryz.results119,hg0,hq,hq1,hr]) | (with_reducible first | refine af ?_ | refine ai ?_ | refine aj ?_ | refine ay fun K hK=>?_ | refine aq ?_ | refine av ?_ | refine au ?_) | (with_reducible refine hK _ ?_;clear hK K) | ((with_reducible refine ag ?_ ?_);(· decide)))
def co : Nat→List Nat
 | 0=>[0]
 | 1=>[1,2]
 | 2=>[1,2,4]
 | 3=>[2]
 | 4=>[1,2,4]
 | 5=>[2]
 | 6=>[1,2,4]
 | 7=>[1,2]
 | 8=>[1,2]
 | _=>[]
def Bo : Fo→Prop
 | .mk k _ ks=>k = 4→ks ≠ []
set_option maxRecDepth 100000 in
set_option maxHeartbeats 8000000 in
theorem wV (f : Fo) (h4 : Bo f) : AFn Tryz.prog 70 [.agg (foA f)] [] (.agg (foA (lh f))) []:=by
 obtain ⟨k,l,ks⟩:=f
 obtain ⟨c,t⟩:=l
 have e : lh (.mk k ⟨c,t⟩ ks) = if k = 0 then fF else if k = 1 then fT else if k = 4 then ks.headD fT else .mk 4 ⟨0,[]⟩ [.mk k ⟨c,t⟩ ks]:=rfl
 rw [e]
 clear e
 by_cases h0 : k = 0
 ·rw [if_pos h0]
  subst h0
  refine oL (r:=.agg [inA 1,inA 0,.sl [] 0 .full,.sl [] 0 .full]) ?_ 4 (by simp [wkA,wkD,fF,foA,cD,aJ])
  simp only [foA]
  refine aD [] Tryz.func70 rfl Tryz.ntmps70 (Nat.le_of_ble_eq_true rfl) (Nat.le_of_ble_eq_true rfl) fun w0 G0 B0 Pr hB0=>?_
  simp only [aO,aA,List.cons_append,List.nil_append]
  repeat' (first | (with_reducible refine hY _ ?_;clear hY Y) | ((with_reducible first | refine an rfl (ar fun K' hK'=>aa ?_) | refine hK' _ (ab fun Y hY=>aa ?_) | refine ab fun Y hY=>aa ?_ | refine ae tk0 co (ab fun Y hY=>aa ?_) | refine aa ?_ | refine ao ?_);(try clear hK' K');(try dsimp only [aop]);try simp only [go_sem,↓reduceIte,Nat.reduceEqDiff,Nat.reduceLT,Nat.reduceLeDiff,Nat.reduceAdd,Nat.reduceSub,Nat.reduceMul,Nat.reduceBEq,Nat.reduceBNe,Nat.reducePow,Int.reduceToNat,Int.reduceLE,Int.reduceLT,Int.reduceMul,Int.reduceEq,Int.reducePow,Int.reduceAdd,Int.reduceSub,Int.reduceNeg,reduceCtorEq,co,Tryz.results70]) | (with_reducible first | refine af ?_ | refine ai ?_ | refine aj ?_ | refine ay fun K hK=>?_ | refine ap ?_ | refine aS ?_ | refine bb ?_ | refine al ?_ | refine au ?_) | (with_reducible refine hK _ ?_;clear hK K) | ((with_reducible refine ag ?_ ?_);(· decide)))
 rw [if_neg h0]
 have h0' : (k = 0) = False:=eq_false h0
 by_cases h1 : k = 1
 ·rw [if_pos h1]
  subst h1
  refine oL (r:=.agg [inA 0,inA 0,.sl [] 0 .full,.sl [] 0 .full]) ?_ 4 (by simp [wkA,wkD,fT,foA,cD,aJ])
  simp only [foA]
  refine aD [] Tryz.func70 rfl Tryz.ntmps70 (Nat.le_of_ble_eq_true rfl) (Nat.le_of_ble_eq_true rfl) fun w0 G0 B0 Pr hB0=>?_
  simp only [aO,aA,List.cons_append,List.nil_append]
  repeat' (first | (with_reducible refine hY _ ?_;clear hY Y) | ((with_reducible first | refine an rfl (ar fun K' hK'=>aa ?_) | refine hK' _ (ab fun Y hY=>aa ?_) | refine ab fun Y hY=>aa ?_ | refine ae tk0 co (ab fun Y hY=>aa ?_) | refine aa ?_ | refine ao ?_);(try clear hK' K');(try dsimp only [aop]);try simp only [go_sem,↓reduceIte,Nat.reduceEqDiff,Nat.reduceLT,Nat.reduceLeDiff,Nat.reduceAdd,Nat.reduceSub,Nat.reduceMul,Nat.reduceBEq,Nat.reduceBNe,Nat.reducePow,Int.reduceToNat,Int.reduceLE,Int.reduceLT,Int.reduceMul,Int.reduceEq,Int.reducePow,Int.reduceAdd,Int.reduceSub,Int.reduceNeg,reduceCtorEq,co,Tryz.results70]) | (with_reducible first | refine af ?_ | refine ai ?_ | refine aj ?_ | refine ay fun K hK=>?_ | refine ap ?_ | refine aq ?_ | refine aS ?_ | refine bb ?_ | refine al ?_ | refine au ?_) | (with_reducible refine hK _ ?_;clear hK K) | ((with_reducible refine ag ?_ ?_);(· decide)))
 rw [if_neg h1]
 have h1' : (k = 1) = False:=eq_false h1
 by_cases hk : k = 4
 ·rw [if_pos hk]
  subst hk
  obtain ⟨f0,r,rfl⟩:=List.exists_cons_of_ne_nil (h4 rfl)
  obtain ⟨k0,⟨c0,t0⟩,ks0⟩:=f0
  have hg0 : ((cD (.mk k0 ⟨c0,t0⟩ ks0 :: r)).drop 0).take 4 = [inA k0,inA c0,.sl (aJ t0) t0.length .none,.sl (cD ks0) ks0.length .none]:=by
   have:=fN (l:=.mk k0 ⟨c0,t0⟩ ks0 :: r) (i:=0) (by simp)
   simpa [foA] using this
  have hg1 : (cD (.mk k0 ⟨c0,t0⟩ ks0 :: r)).take 4 = [inA k0,inA c0,.sl (aJ t0) t0.length .none,.sl (cD ks0) ks0.length .none]:=by simpa using hg0
  have hfl:=dC (.mk k0 ⟨c0,t0⟩ ks0 :: r)
  have hln : ((0 : Int) < (((.mk k0 ⟨c0,t0⟩ ks0 :: r : List Fo).length : Nat) : Int)) = True:=eq_true (by rw [List.length_cons];omega)
  have hl4 : (4≤(.mk k0 ⟨c0,t0⟩ ks0 :: r : List Fo).length * 4) = True:=eq_true (by rw [List.length_cons];omega)
  simp only [List.headD,foA]
  generalize (.mk k0 ⟨c0,t0⟩ ks0 :: r : List Fo) = KS at *
  refine aD [] Tryz.func70 rfl Tryz.ntmps70 (Nat.le_of_ble_eq_true rfl) (Nat.le_of_ble_eq_true rfl) fun w0 G0 B0 Pr hB0=>?_
  simp only [aO,aA,List.cons_append,List.nil_append]
  repeat' (first | (with_reducible refine hY _ ?_;clear hY Y) | ((with_reducible first | refine an rfl (ar fun K' hK'=>aa ?_) | refine hK' _ (ab fun Y hY=>aa ?_) | refine ab fun Y hY=>aa ?_ | refine ae tk0 co (ab fun Y hY=>aa ?_) | refine aa ?_ | refine ao ?_);(try clear hK' K');(try dsimp only [aop]);try simp only [go_sem,↓reduceIte,Nat.reduceEqDiff,Nat.reduceLT,Nat.reduceLeDiff,Nat.reduceAdd,Nat.reduceSub,Nat.reduceMul,Nat.reduceBEq,Nat.reduceBNe,Nat.reducePow,Int.reduceToNat,Int.reduceLE,Int.reduceLT,Int.reduceMul,Int.reduceEq,Int.reducePow,Int.reduceAdd,Int.reduceSub,Int.reduceNeg,reduceCtorEq,co,Tryz.results70,hg0,hg1,hfl,hln,hl4]) | (with_reducible first | refine af ?_ | refine ai ?_ | refine aj ?_ | refine ay fun K hK=>?_ | refine ap ?_ | refine aq ?_ | refine aS ?_ | refine bb ?_ | refine al ?_ | refine au ?_) | (with_reducible refine hK _ ?_;clear hK K) | ((with_reducible refine ag ?_ ?_);(· decide)))
 rw [if_neg hk]
 have hk' : (k = 4) = False:=eq_false hk
 refine oL (r:=.agg [inA 4,inA 0,.sl [] 0 .full,.sl [inA k,inA c,.sl (aJ t) t.length .none,.sl (cD ks) ks.length .none] 1 .full]) ?_ 4 (by simp [wkA,wkD,foA,cD,aJ])
 simp only [foA]
 refine aD [] Tryz.func70 rfl Tryz.ntmps70 (Nat.le_of_ble_eq_true rfl) (Nat.le_of_ble_eq_true rfl) fun w0 G0 B0 Pr hB0=>?_
 simp only [aO,aA,List.cons_append,List.nil_append]
 repeat' (first | (with_reducible refine hY _ ?_;clear hY Y) | ((with_reducible first | refine an rfl (ar fun K' hK'=>aa ?_) | refine hK' _ (ab fun Y hY=>aa ?_) | refine ab fun Y hY=>aa ?_ | refine ae tk0 co (ab fun Y hY=>aa ?_) | refine aa ?_ | refine ao ?_);(try clear hK' K');(try dsimp only [aop]);try simp only [go_sem,↓reduceIte,Nat.reduceEqDiff,Nat.reduceLT,Nat.reduceLeDiff,Nat.reduceAdd,Nat.reduceSub,Nat.reduceMul,Nat.reduceBEq,Nat.reduceBNe,Nat.reducePow,Int.reduceToNat,Int.reduceLE,Int.reduceLT,Int.reduceMul,Int.reduceEq,Int.reducePow,Int.reduceAdd,Int.reduceSub,Int.reduceNeg,reduceCtorEq,co,Tryz.results70,h0',h1',hk']) | (with_reducible first | refine af ?_ | refine ai ?_ | refine aj ?_ | refine ay fun K hK=>?_ | refine aq ?_ | refine aU ?_ | refine al ?_ | refine av ?_ | refine au ?_) | (with_reducible refine hK _ ?_;clear hK K) | ((with_reducible refine ag ?_ ?_);(· decide)))
end Go.Proofs.YtmpdocplcgbpkaaGreatDoor
namespace Go.Proofs.YtmpdocplcgbpkaaGreatDoor
set_option linter.unusedSimpArgs false
set_option linter.unusedVariables false
open Go.RowKit
theorem dB {P : Program} {f : FuncId} {args bxs bxs' : List AV} {r r' : AV} (h : AFn P f args bxs r bxs') (k : Nat) (e : wkD k r = r') : AFn P f args bxs r' bxs':=fun w G vs hst hX hvs hargs=>by
 refine (h w G vs hst hX hvs hargs).mono fun e' w' ⟨v,G',h1,h2,h3⟩=>⟨v,G',h1,e ▸ kU k h2,h3⟩
def gL (q : Nat × Fo) : AV:=.tup [.agg (foA q.2),b9 q.1]
theorem iT : gL (5,fT) = .tup [.agg [inA 0,inA 0,.sl [] 0 .none,.sl [] 0 .none],.ifc 50 (.c (.int .i64 5))]:=rfl
theorem ju : gL (3,fT) = .tup [.agg [inA 0,inA 0,.sl [] 0 .none,.sl [] 0 .none],.ifc 50 (.c (.int .i64 3))]:=rfl
theorem AZ : gL (0,fT) = .tup [.agg [inA 0,inA 0,.sl [] 0 .none,.sl [] 0 .none],.c .nilIface]:=rfl
theorem AY : gL (0,fF) = .tup [.agg [inA 1,inA 0,.sl [] 0 .none,.sl [] 0 .none],.c .nilIface]:=rfl
theorem ja (k : Nat) (M : List Tm) : (aJ M).map (wkD k) = aJ M:=pw _ (fun v=>by cases k <;> rfl) M
def bz : Nat→List Nat
 | 0=>[0]
 | 1=>[1,2]
 | 2=>[1,2,4]
 | 3=>[2,4]
 | 4=>[1,2]
 | 5=>[1,2]
 | 6=>[2]
 | 7=>[2]
 | 8=>[1,2]
 | 9=>[1,2,5]
 | 10=>[1,2,5,6]
 | 11=>[2,5,6,34,35,36]
 | 12=>[2,5,6,34,35,36]
 | 13=>[2,5,6,8,34,35,36]
 | 14=>[2,5,6,34,35,36]
 | 15=>[2,6]
 | 16=>[2,6]
 | 17=>[2,6]
 | 18=>[2,9,10]
 | 19=>[2,10]
 | 20=>[2,9]
 | _=>[]
set_option maxRecDepth 100000 in
set_option maxHeartbeats 16000000 in
theorem mF (l : Ln) (hgcd : cY l = true→AFn Tryz.prog 118 [.agg (lnA l)] [] (inA (eB 0 l.t : Int)) []) : AFn Tryz.prog 104 [.agg (lnA l)] [] (gL (fh l)) []:=by
 have hck:=d3 l
 unfold ip at hck
 cases hb : cY l with
 | false =>
  rw [hb,if_neg (by decide),di] at hck
  rw [show fh l = (5,fT) by unfold fh;rw [hb];rfl,iT]
  refine dB (r:=.tup [.agg [inA 0,inA 0,.sl [] 0 .full,.sl [] 0 .full],.ifc 50 (.c (.int .i64 5))]) ?_ 4 (by simp [wkD])
  clear hgcd hb
  refine aD [] Tryz.func104 rfl Tryz.ntmps104 (Nat.le_of_ble_eq_true rfl) (Nat.le_of_ble_eq_true rfl) fun w0 G0 B0 Pr hB0=>?_
  simp only [aO,aA,List.cons_append,List.nil_append]
  repeat' (first | (with_reducible refine hY _ ?_;clear hY Y) | ((with_reducible first | refine an rfl (ar fun K' hK'=>aa ?_) | refine hK' _ (ab fun Y hY=>aa ?_) | refine ab fun Y hY=>aa ?_ | refine ae tk0 bz (ab fun Y hY=>aa ?_) | refine aa ?_ | refine ao ?_);(try clear hK' K');(try dsimp only [aop]);try simp only [go_sem,↓reduceIte,Nat.reduceEqDiff,Nat.reduceLT,Nat.reduceLeDiff,Nat.reduceAdd,Nat.reduceSub,Nat.reduceMul,Nat.reduceBEq,Nat.reduceBNe,Nat.reducePow,Int.reduceToNat,Int.reduceLE,Int.reduceLT,Int.reduceMul,Int.reduceEq,Int.reducePow,Int.reduceAdd,Int.reduceSub,Int.reduceNeg,reduceCtorEq,bz,Tryz.results104]) | (with_reducible first | refine af ?_ | refine ai ?_ | refine aj ?_ | refine ay fun K hK=>?_ | refine ap ?_ | refine aS ?_ | refine au ?_) | (with_reducible refine hK _ ?_;clear hK K) | ((with_reducible refine ag ?_ ?_);(· decide)) | (with_reducible refine ah (hck) ?_))
 | true =>
 rw [hb,if_pos rfl,cR] at hck
 have hg:=hgcd hb
 clear hgcd
 have hL : fh l = if l.t.length = 0 then (0,if l.c≤0 then fT else fF) else if 0 < kA (gK l).t then (0,.mk 2 (gK l) []) else if cX (1 - (gK l).c) then (0,.mk 4 ⟨0,[]⟩ [.mk 2 ⟨1 - (gK l).c,cz (-1) (gK l).t⟩ []]) else (3,fT):=by unfold fh;rw [hb];rfl
 rw [hL]
 by_cases h0 : l.t.length = 0
 ·rw [if_pos h0]
  have h0' : ((l.t.length : Int) = 0) = True:=eq_true (by omega)
  by_cases hc : l.c≤0
  ·rw [if_pos hc,AZ]
   have hc' : (l.c≤0) = True:=eq_true hc
   refine dB (r:=.tup [.agg [inA 0,inA 0,.sl [] 0 .full,.sl [] 0 .full],.c .nilIface]) ?_ 4 (by simp [wkD])
   clear hg hL
   refine aD [] Tryz.func104 rfl Tryz.ntmps104 (Nat.le_of_ble_eq_true rfl) (Nat.le_of_ble_eq_true rfl) fun w0 G0 B0 Pr hB0=>?_
   simp only [aO,aA,List.cons_append,List.nil_append]
   repeat' (first | (with_reducible refine hY _ ?_;clear hY Y) | ((with_reducible first | refine an rfl (ar fun K' hK'=>aa ?_) | refine hK' _ (ab fun Y hY=>aa ?_) | refine ab fun Y hY=>aa ?_ | refine ae tk0 bz (ab fun Y hY=>aa ?_) | refine aa ?_ | refine ao ?_);(try clear hK' K');(try dsimp only [aop]);try simp only [go_sem,↓reduceIte,Nat.reduceEqDiff,Nat.reduceLT,Nat.reduceLeDiff,Nat.reduceAdd,Nat.reduceSub,Nat.reduceMul,Nat.reduceBEq,Nat.reduceBNe,Nat.reducePow,Int.reduceToNat,Int.reduceLE,Int.reduceLT,Int.reduceMul,Int.reduceEq,Int.reducePow,Int.reduceAdd,Int.reduceSub,Int.reduceNeg,reduceCtorEq,bz,Tryz.results104,h0',hc']) | (with_reducible first | refine af ?_ | refine ai ?_ | refine aj ?_ | refine ay fun K hK=>?_ | refine ap ?_ | refine aq ?_ | refine aS ?_ | refine av ?_ | refine au ?_) | (with_reducible refine hK _ ?_;clear hK K) | ((with_reducible refine ag ?_ ?_);(· decide)) | (with_reducible refine ah (hck) ?_) | (with_reducible refine ce (cr) ?_))
  ·rw [if_neg hc,AY]
   have hc' : (l.c≤0) = False:=eq_false hc
   refine dB (r:=.tup [.agg [inA 1,inA 0,.sl [] 0 .full,.sl [] 0 .full],.c .nilIface]) ?_ 4 (by simp [wkD])
   clear hg hL
   refine aD [] Tryz.func104 rfl Tryz.ntmps104 (Nat.le_of_ble_eq_true rfl) (Nat.le_of_ble_eq_true rfl) fun w0 G0 B0 Pr hB0=>?_
   simp only [aO,aA,List.cons_append,List.nil_append]
   repeat' (first | (with_reducible refine hY _ ?_;clear hY Y) | ((with_reducible first | refine an rfl (ar fun K' hK'=>aa ?_) | refine hK' _ (ab fun Y hY=>aa ?_) | refine ab fun Y hY=>aa ?_ | refine ae tk0 bz (ab fun Y hY=>aa ?_) | refine aa ?_ | refine ao ?_);(try clear hK' K');(try dsimp only [aop]);try simp only [go_sem,↓reduceIte,Nat.reduceEqDiff,Nat.reduceLT,Nat.reduceLeDiff,Nat.reduceAdd,Nat.reduceSub,Nat.reduceMul,Nat.reduceBEq,Nat.reduceBNe,Nat.reducePow,Int.reduceToNat,Int.reduceLE,Int.reduceLT,Int.reduceMul,Int.reduceEq,Int.reducePow,Int.reduceAdd,Int.reduceSub,Int.reduceNeg,reduceCtorEq,bz,Tryz.results104,h0',hc']) | (with_reducible first | refine af ?_ | refine ai ?_ | refine aj ?_ | refine ay fun K hK=>?_ | refine ap ?_ | refine aq ?_ | refine aS ?_ | refine av ?_ | refine au ?_) | (with_reducible refine hK _ ?_;clear hK K) | ((with_reducible refine ag ?_ ?_);(· decide)) | (with_reducible refine ah (hck) ?_) | (with_reducible refine ce (cr) ?_))
 rw [if_neg h0]
 have h0' : ((l.t.length : Int) = 0) = False:=eq_false (by omega)
 have hne : l.t ≠ []:=fun e=>h0 (by rw [e];rfl)
 have hrl:=w2 hb hne
 obtain ⟨⟨c1,c2⟩,h64,hm⟩:=ef hb
 have hts : cU (-1) l.t = true:=by unfold cY at hb;simp only [Bool.and_eq_true] at hb;exact hb.2.2
 have hok:=fv _ _ hts
 have hgp : 0 < eB 0 l.t:=mr (List.getElem_mem (show 0 < l.t.length by omega)) (hok _ (List.getElem_mem _)).2.1
 have hgd:=(ji l.t 0).2
 have hgl : eB 0 l.t≤1073741824:=by
  have h1:=hgd _ (List.getElem_mem (show 0 < l.t.length by omega))
  have h2:=hok _ (List.getElem_mem (show 0 < l.t.length by omega))
  have h3:=Nat.le_of_dvd (by omega) h1
  have:=h2.1.2.2
  omega
 have hup:=Bq l.c (eB 0 l.t : Int) (by omega) (by omega)
 have hadd:=vC (gK l) 1 1 (by decide) rfl hrl
 have hrt : (gK l).t = jd (eB 0 l.t : Int) l.t:=rfl
 have hrc : (gK l).c = upZ l.c (eB 0 l.t : Int):=rfl
 have hqb : ∀ k (h : k < l.t.length),IntKind.i64.wrap (l.t[k].2.tdiv (eB 0 l.t : Int)) = l.t[k].2.tdiv (eB 0 l.t : Int):=fun k h=>by
  have h1:=vU hgp (hgd _ (List.getElem_mem h)) (hok _ (List.getElem_mem h)).2.1
  have h2:=(hok _ (List.getElem_mem h)).1.2.2
  exact aY (by omega) (by omega)
 have hgz : ((eB 0 l.t : Int) = 0) = False:=eq_false (by omega)
 unfold lnA at hadd
 generalize gK l = R at *
 obtain ⟨rc,rt⟩:=R
 simp only at hrt hrc
 generalize eB 0 l.t = g at *
 rw [← hrc] at hup
 obtain ⟨c,t⟩:=l
 simp only at *
 clear hL hb hok hts hgd hm hgp hrl
 refine dB (r:=if 0 < kA rt then .tup [.agg [inA 2,inA rc,.sl (aJ rt) t.length .none,.sl [] 0 .full],.c .nilIface]
  else if cX (1 - rc) then .tup [.agg [inA 4,inA 0,.sl [] 0 .full,.sl [inA 2,inA (1 - rc),.sl (aJ (cz (-1) rt)) (cz (-1) rt).length .none,.sl [] 0 .full] 1 .full],.c .nilIface]
  else .tup [.agg [inA 0,inA 0,.sl [] 0 .full,.sl [] 0 .full],.ifc 50 (.c (.int .i64 3))]) ?_ 6 (by
  have hrl : rt.length = t.length:=by rw [hrt,je]
  unfold gL
  repeat' split
  all_goals simp [wkD,foA,cD,aJ,ja,hrl,cR,mo,fT])
 refine aD [] Tryz.func104 rfl Tryz.ntmps104 (Nat.le_of_ble_eq_true rfl) (Nat.le_of_ble_eq_true rfl) fun w0 G0 B0 Pr hB0=>?_
 simp only [aO,aA,List.cons_append,List.nil_append]
 repeat' (first | (with_reducible refine hY _ ?_;clear hY Y) | ((with_reducible first | refine an rfl (ar fun K' hK'=>aa ?_) | refine hK' _ (ab fun Y hY=>aa ?_) | refine ab fun Y hY=>aa ?_ | refine ae tk0 bz (ab fun Y hY=>aa ?_) | refine aa ?_);(try clear hK' K');(try dsimp only [aop]);try simp only [go_sem,↓reduceIte,Nat.reduceEqDiff,Nat.reduceLT,Nat.reduceLeDiff,Nat.reduceAdd,Nat.reduceSub,Nat.reduceMul,Nat.reduceBEq,Nat.reduceBNe,Nat.reducePow,Int.reduceToNat,Int.reduceLE,Int.reduceLT,Int.reduceMul,Int.reduceEq,Int.reducePow,Int.reduceAdd,Int.reduceSub,Int.reduceNeg,reduceCtorEq,bz,Tryz.results104,h0']) | (with_reducible first | refine af ?_ | refine ai ?_ | refine aj ?_ | refine ay fun K hK=>?_ | refine aq ?_ | refine al ?_ | refine av ?_ | refine bG ?_) | (with_reducible refine hK _ ?_;clear hK K) | ((with_reducible refine ag ?_ ?_);(· decide)) | (with_reducible refine ah (hck) ?_) | (with_reducible refine ce (cr) ?_) | (with_reducible refine ah (hg) ?_) | (with_reducible refine ah (hup) ?_))
 refine eu (dm (b:=10050) (k0:=10006) (i:=1) 94 (by decide) (by decide) (by decide) rfl rfl rfl) ?_
 refine bK (α:=Nat) (fun k=>[(2,.loc 10002 0),(5,inA (g : Int)),(6,.loc 10006 0),(34,.sl (aJ t) t.length .none),(35,inA (t.length : Int)),(36,inA (k : Int)),(10002,.bc [inA 0,inA 0,.sl [] 0 .full,.sl [] 0 .full] 27),(10006,.bc [inA rc,.sl (aJ (jd (g : Int) (t.take k))) k (.tok 10050)] 24),(10050,.bt k 94)])
  (fun k=>k≤t.length) (fun k=>t.length - k) 0 [2,5,6,34,35,36] ?_ (Nat.zero_le _) ?_
 ·simp only [go_sem,↓reduceIte,Nat.reduceEqDiff,Nat.reduceLT,Nat.reduceLeDiff,Nat.reduceAdd,Nat.reduceSub,Nat.reduceMul,Nat.reduceBEq,Nat.reduceBNe,Nat.reducePow,Int.reduceToNat,Int.reduceLE,Int.reduceLT,Int.reduceMul,Int.reduceEq,Int.reducePow,Int.reduceAdd,Int.reduceSub,Int.reduceNeg,reduceCtorEq] <;> rfl
 intro k hk ih
 by_cases hlt : k < t.length
 ·have hlt' : ((k : Int) < (t.length : Int)) = True:=eq_true (by omega)
  have hkw:=cf (n:=k) (by omega)
  have hg0:=ez hlt
  have hfl:=cl t
  have hcl : (aJ (jd (g : Int) (t.take k))).length = k * 2:=by rw [cl,je,List.length_take];omega
  have hq:=hqb k hlt
  have ih':=ih (k + 1) (by omega) (by omega)
  rw [ur (g : Int) hlt,iC] at ih'
  clear ih hg hck hup hadd hrt hrc hqb
  generalize t[k] = m at *
  obtain ⟨v,x⟩:=m
  simp only at hg0 ih' hq
  generalize jd (g : Int) (t.take k) = T at *
  repeat' (first | (with_reducible refine hY _ ?_;clear hY Y) | ((with_reducible first | refine an rfl (ar fun K' hK'=>aa ?_) | refine hK' _ (ab fun Y hY=>aa ?_) | refine ab fun Y hY=>aa ?_ | refine ae tk0 bz (ab fun Y hY=>aa ?_) | refine cV rfl (cT fun K' hK'=>aa ?_) | refine hK' _ _ (ab fun Y hY=>aa ?_));(try clear hK' K');(try dsimp only [aop]);try simp only [go_sem,↓reduceIte,Nat.reduceEqDiff,Nat.reduceLT,Nat.reduceLeDiff,Nat.reduceAdd,Nat.reduceSub,Nat.reduceMul,Nat.reduceBEq,Nat.reduceBNe,Nat.reducePow,Int.reduceToNat,Int.reduceLE,Int.reduceLT,Int.reduceMul,Int.reduceEq,Int.reducePow,Int.reduceAdd,Int.reduceSub,Int.reduceNeg,reduceCtorEq,bz,Tryz.results104,hlt',hfl,hg0,hkw,hq,hgz,hcl]) | (with_reducible first | refine af ?_ | refine ai ?_ | refine aj ?_ | refine ay fun K hK=>?_ | refine ap ?_ | refine aU ?_ | refine al ?_ | refine av ?_ | refine ch ?_ | refine eN fun K hK=>?_) | (with_reducible refine hK _ ?_;clear hK K) | (with_reducible refine hK _ _ ?_ ?_;(· kernel_rfl);clear hK K) | ((with_reducible refine ag ?_ ?_);(· decide)) | (with_reducible refine cg tk0 bz ?_ ?_;(· kernel_rfl)) | (with_reducible refine bp ?_ ?_;(· (try and_intros) <;> first | omega | assumption | (simp only [List.length_append,List.length_map,List.length_cons,List.length_nil] <;> omega))))
  refine bi [2,5,6,34,35,36] (by simp only [go_sem,↓reduceIte,Nat.reduceEqDiff,Nat.reduceLT,Nat.reduceLeDiff,Nat.reduceAdd,Nat.reduceSub,Nat.reduceMul,Nat.reduceBEq,Nat.reduceBNe,Nat.reducePow,Int.reduceToNat,Int.reduceLE,Int.reduceLT,Int.reduceMul,Int.reduceEq,Int.reducePow,Int.reduceAdd,Int.reduceSub,Int.reduceNeg,reduceCtorEq];exact rfl) ?_
  refine gY ih' ?_
  simp [aJ]
 ·have hlt' : ((k : Int) < (t.length : Int)) = False:=eq_false (by omega)
  obtain rfl : k = t.length:=by omega
  rw [List.take_of_length_le (by omega),← hrt]
  have hrl : rt.length = t.length:=by rw [hrt,je]
  have hpos : 0 < rt.length:=by omega
  have hg1:=tc hpos
  have hpl : ((0 : Int) < (t.length : Int)) = True:=eq_true (by omega)
  have hfl:=cl rt
  have hh : kA rt = rt[0].2:=by unfold kA;rw [List.getD_eq_getElem?_getD,List.getElem?_eq_getElem hpos];rfl
  rw [hrl] at hfl hadd
  clear ih hg hck hup hqb hrt
  by_cases hp : 0 < kA rt
  ·rw [if_pos hp]
   rw [hh] at hp
   have hp' : (0 < rt[0].2) = True:=eq_true hp
   clear hadd hh
   generalize rt[0].2 = x at *
   repeat' (first | (with_reducible refine hY _ ?_;clear hY Y) | ((with_reducible first | refine an rfl (ar fun K' hK'=>aa ?_) | refine hK' _ (ab fun Y hY=>aa ?_) | refine ab fun Y hY=>aa ?_ | refine ae tk0 bz (ab fun Y hY=>aa ?_) | refine aa ?_ | refine ao ?_);(try clear hK' K');(try dsimp only [aop]);try simp only [go_sem,↓reduceIte,Nat.reduceEqDiff,Nat.reduceLT,Nat.reduceLeDiff,Nat.reduceAdd,Nat.reduceSub,Nat.reduceMul,Nat.reduceBEq,Nat.reduceBNe,Nat.reducePow,Int.reduceToNat,Int.reduceLE,Int.reduceLT,Int.reduceMul,Int.reduceEq,Int.reducePow,Int.reduceAdd,Int.reduceSub,Int.reduceNeg,reduceCtorEq,bz,Tryz.results104,hlt',hg1,hpl,hfl,hp']) | (with_reducible first | refine af ?_ | refine ai ?_ | refine aj ?_ | refine ay fun K hK=>?_ | refine aq ?_ | refine bC ?_ | refine aS ?_ | refine bg ?_ | refine au ?_ | refine bf ?_) | (with_reducible refine hK _ ?_;clear hK K) | ((with_reducible refine ag ?_ ?_);(· decide)) | ((with_reducible refine gM (fun hc=>?_) (fun hc=>?_)) <;> (try simp only [decide_eq_true_eq,decide_eq_false_iff_not,Bool.not_true,Bool.not_false,Bool.not_eq_true',Bool.not_eq_false'] at hc) <;> (try (exfalso;omega))) | (with_reducible refine bp ?_ ?_;(· (try and_intros) <;> first | omega | assumption | (simp only [List.length_append,List.length_map,List.length_cons,List.length_nil] <;> omega))))
  ·rw [if_neg hp]
   rw [hh] at hp
   have hp' : (0 < rt[0].2) = False:=eq_false hp
   clear hh
   generalize rt[0].2 = x at *
   cases hcc : cX (1 - rc) with
   | true =>
    rw [if_pos rfl]
    have ha:=hadd (0,⟨1 - rc,cz (-1) rt⟩) (by rw [if_pos hcc])
    rw [iU] at ha
    clear hadd hcc
    repeat' (first | (with_reducible refine hY _ ?_;clear hY Y) | ((with_reducible first | refine an rfl (ar fun K' hK'=>aa ?_) | refine hK' _ (ab fun Y hY=>aa ?_) | refine ab fun Y hY=>aa ?_ | refine ae tk0 bz (ab fun Y hY=>aa ?_) | refine aa ?_ | refine ao ?_);(try clear hK' K');(try dsimp only [aop]);try simp only [go_sem,↓reduceIte,Nat.reduceEqDiff,Nat.reduceLT,Nat.reduceLeDiff,Nat.reduceAdd,Nat.reduceSub,Nat.reduceMul,Nat.reduceBEq,Nat.reduceBNe,Nat.reducePow,Int.reduceToNat,Int.reduceLE,Int.reduceLT,Int.reduceMul,Int.reduceEq,Int.reducePow,Int.reduceAdd,Int.reduceSub,Int.reduceNeg,reduceCtorEq,bz,Tryz.results104,hlt',hg1,hpl,hfl,hp']) | (with_reducible first | refine af ?_ | refine ai ?_ | refine aj ?_ | refine ay fun K hK=>?_ | refine aq ?_ | refine bC ?_ | refine bg ?_ | refine av ?_ | refine au ?_ | refine bf ?_) | (with_reducible refine hK _ ?_;clear hK K) | ((with_reducible refine ag ?_ ?_);(· decide)) | ((with_reducible refine gM (fun hc=>?_) (fun hc=>?_)) <;> (try simp only [decide_eq_true_eq,decide_eq_false_iff_not,Bool.not_true,Bool.not_false,Bool.not_eq_true',Bool.not_eq_false'] at hc) <;> (try (exfalso;omega))) | (with_reducible refine bp ?_ ?_;(· (try and_intros) <;> first | omega | assumption | (simp only [List.length_append,List.length_map,List.length_cons,List.length_nil] <;> omega))) | (with_reducible refine ah (c5 ha ?_) ?_;(· simp [cN])) | (with_reducible refine ce (cr) ?_))
   | false =>
    rw [if_neg (by decide)]
    have ha:=hadd (3,⟨0,[]⟩) (by rw [hcc];rfl)
    rw [ke] at ha
    clear hadd hcc
    repeat' (first | (with_reducible refine hY _ ?_;clear hY Y) | ((with_reducible first | refine an rfl (ar fun K' hK'=>aa ?_) | refine hK' _ (ab fun Y hY=>aa ?_) | refine ab fun Y hY=>aa ?_ | refine ae tk0 bz (ab fun Y hY=>aa ?_) | refine aa ?_ | refine ao ?_);(try clear hK' K');(try dsimp only [aop]);try simp only [go_sem,↓reduceIte,Nat.reduceEqDiff,Nat.reduceLT,Nat.reduceLeDiff,Nat.reduceAdd,Nat.reduceSub,Nat.reduceMul,Nat.reduceBEq,Nat.reduceBNe,Nat.reducePow,Int.reduceToNat,Int.reduceLE,Int.reduceLT,Int.reduceMul,Int.reduceEq,Int.reducePow,Int.reduceAdd,Int.reduceSub,Int.reduceNeg,reduceCtorEq,bz,Tryz.results104,hlt',hg1,hpl,hfl,hp']) | (with_reducible first | refine af ?_ | refine ai ?_ | refine aj ?_ | refine ay fun K hK=>?_ | refine ap ?_ | refine aq ?_ | refine bC ?_ | refine aS ?_ | refine bg ?_ | refine av ?_ | refine au ?_ | refine bf ?_) | (with_reducible refine hK _ ?_;clear hK K) | ((with_reducible refine ag ?_ ?_);(· decide)) | ((with_reducible refine gM (fun hc=>?_) (fun hc=>?_)) <;> (try simp only [decide_eq_true_eq,decide_eq_false_iff_not,Bool.not_true,Bool.not_false,Bool.not_eq_true',Bool.not_eq_false'] at hc) <;> (try (exfalso;omega))) | (with_reducible refine bp ?_ ?_;(· (try and_intros) <;> first | omega | assumption | (simp only [List.length_append,List.length_map,List.length_cons,List.length_nil] <;> omega))) | (with_reducible refine ah (c5 ha ?_) ?_;(· simp [cN])))
end Go.Proofs.YtmpdocplcgbpkaaGreatDoor
namespace Go.Proofs.YtmpdocplcgbpkaaGreatDoor
set_option linter.unusedSimpArgs false
set_option linter.unusedVariables false
open Go.RowKit
mutual
theorem At : ∀ (f : Fo) (k : Nat),(foA f).map (wkD k) = foA f
 | .mk k l ks,0=>by rw [List.map_congr_left (g:=id) fun x _=>by unfold wkD;rfl,List.map_id]
 | .mk k l ks,j + 1=>by
  have h:=kx ks j
  simp only [foA,List.map_cons,List.map_nil,wkD,ja,h]
theorem kx : ∀ (l : List Fo) (k : Nat),(cD l).map (wkD k) = cD l
 | [],k=>rfl
 | f :: r,k=>by rw [cD,List.map_append,At f k,kx r k]
end
theorem iQ (l : Ln) : fh l = (5,fT)∨fh l = (3,fT)∨((fh l).1 = 0∧cY l = true∧Bo (fh l).2):=by
 unfold fh
 cases hb : cY l with
 | false=>exact .inl rfl
 | true =>
  simp only [Bool.not_true,Bool.false_eq_true,if_false]
  split
  ·refine .inr (.inr ⟨rfl,trivial,?_⟩)
   simp only
   split
   ·exact fun h=>by cases h
   ·exact fun h=>by cases h
  ·split
   ·exact .inr (.inr ⟨rfl,trivial,fun h=>by cases h⟩)
   ·split
    ·exact .inr (.inr ⟨rfl,trivial,fun _=>List.cons_ne_nil _ _⟩)
    ·exact .inr (.inl rfl)
theorem yS {l : Ln} (hl : cY l = true) : (if cX (0 - l.c) then (0,(⟨0 - l.c,cz (-1) l.t⟩ : Ln)) else (3,⟨0,[]⟩)) = ((0,jT l) : Nat × Ln):=by
 obtain ⟨⟨c1,c2⟩,_,_⟩:=ef hl
 rw [if_pos (coefB_iff.2 (by omega))]
 unfold jT
 simp
abbrev frm (k c : Int) (t : List Tm) (ks : List Fo) : List AV:=[inA k,inA c,.sl (aJ t) t.length .none,.sl (cD ks) ks.length .none]
theorem cH (k c : Int) (t : List Tm) (ks : List Fo) : foA (.mk k ⟨c,t⟩ ks) = frm k c t ks:=rfl
theorem hC (k c : Int) (t : List Tm) (ks : List Fo) : gL (0,.mk k ⟨c,t⟩ ks) = .tup [.agg (frm k c t ks),.c .nilIface]:=rfl
abbrev zF (e : AV) : AV:=.tup [.agg [inA 0,inA 0,.sl [] 0 .full,.sl [] 0 .full],e]
theorem BJ : wkD 4 (zF (b9 5)) = gL (5,fT):=by simp [wkD,iT,di]
theorem BI : wkD 4 (zF (b9 3)) = gL (3,fT):=by simp [wkD,ju,mo]
def bI : Nat→List Nat
 | 0=>[0,1]
 | 1=>[1,2,4]
 | 2=>[1,2,4,6,7]
 | 3=>[4,7]
 | 4=>[1,2,4,6]
 | 5=>[1,4,6]
 | 6=>[4,6]
 | 7=>[4,6]
 | 8=>[1,2,4,6]
 | 9=>[1,4,6,7,8]
 | 10=>[4,7]
 | 11=>[1,4,6,8]
 | 12=>[1,4,6,7,9]
 | 13=>[4,7]
 | 14=>[1,4,6,9]
 | 15=>[4,6,9]
 | 16=>[4,6,9]
 | _=>[]
set_option maxRecDepth 100000 in
set_option maxHeartbeats 16000000 in
theorem yG (HG : ∀ l,cY l = true→AFn Tryz.prog 118 [.agg (lnA l)] [] (inA (eB 0 l.t : Int)) []) (k : Int) (l : Ln) (ks : List Fo) (no : Bool) (hk : k = 2∨k = 3) :
  AFn Tryz.prog 69 [.agg (foA (.mk k l ks)),.c (.bool no)] [] (gL (gR k l no)) []:=by
 have h1:=mF l (HG l)
 unfold gR
 rcases iQ l with e | e | ⟨e1,hlin,hks⟩
 ·rw [e] at h1 ⊢
  rw [if_pos (by decide)]
  refine dB (r:=zF (b9 5)) ?_ 4 BJ
  rw [iT] at h1
  rw [di]
  clear e HG
  obtain ⟨c,t⟩:=l
  rw [cH]
  refine aD [] Tryz.func69 rfl Tryz.ntmps69 (Nat.le_of_ble_eq_true rfl) (Nat.le_of_ble_eq_true rfl) fun w0 G0 B0 Pr hB0=>?_
  simp only [aO,aA,List.cons_append,List.nil_append]
  repeat' (first | (with_reducible refine hY _ ?_;clear hY Y) | ((with_reducible first | refine an rfl (ar fun K' hK'=>aa ?_) | refine hK' _ (ab fun Y hY=>aa ?_) | refine ab fun Y hY=>aa ?_ | refine ae tk0 bI (ab fun Y hY=>aa ?_) | refine aa ?_ | refine ao ?_);(try clear hK' K');(try dsimp only [aop]);try simp only [go_sem,↓reduceIte,Nat.reduceEqDiff,Nat.reduceLT,Nat.reduceLeDiff,Nat.reduceAdd,Nat.reduceSub,Nat.reduceMul,Nat.reduceBEq,Nat.reduceBNe,Nat.reducePow,Int.reduceToNat,Int.reduceLE,Int.reduceLT,Int.reduceMul,Int.reduceEq,Int.reducePow,Int.reduceAdd,Int.reduceSub,Int.reduceNeg,reduceCtorEq,bI,Tryz.results69]) | (with_reducible first | refine af ?_ | refine ai ?_ | refine aj ?_ | refine ay fun K hK=>?_ | refine ap ?_ | refine aS ?_ | refine au ?_) | (with_reducible refine hK _ ?_;clear hK K) | ((with_reducible refine ag ?_ ?_);(· decide)) | (with_reducible refine ah (h1) ?_))
 ·rw [e] at h1 ⊢
  rw [if_pos (by decide)]
  refine dB (r:=zF (b9 3)) ?_ 4 BI
  rw [ju] at h1
  rw [mo]
  clear e HG
  obtain ⟨c,t⟩:=l
  rw [cH]
  refine aD [] Tryz.func69 rfl Tryz.ntmps69 (Nat.le_of_ble_eq_true rfl) (Nat.le_of_ble_eq_true rfl) fun w0 G0 B0 Pr hB0=>?_
  simp only [aO,aA,List.cons_append,List.nil_append]
  repeat' (first | (with_reducible refine hY _ ?_;clear hY Y) | ((with_reducible first | refine an rfl (ar fun K' hK'=>aa ?_) | refine hK' _ (ab fun Y hY=>aa ?_) | refine ab fun Y hY=>aa ?_ | refine ae tk0 bI (ab fun Y hY=>aa ?_) | refine aa ?_ | refine ao ?_);(try clear hK' K');(try dsimp only [aop]);try simp only [go_sem,↓reduceIte,Nat.reduceEqDiff,Nat.reduceLT,Nat.reduceLeDiff,Nat.reduceAdd,Nat.reduceSub,Nat.reduceMul,Nat.reduceBEq,Nat.reduceBNe,Nat.reducePow,Int.reduceToNat,Int.reduceLE,Int.reduceLT,Int.reduceMul,Int.reduceEq,Int.reducePow,Int.reduceAdd,Int.reduceSub,Int.reduceNeg,reduceCtorEq,bI,Tryz.results69]) | (with_reducible first | refine af ?_ | refine ai ?_ | refine aj ?_ | refine ay fun K hK=>?_ | refine ap ?_ | refine aS ?_ | refine au ?_) | (with_reducible refine hK _ ?_;clear hK K) | ((with_reducible refine ag ?_ ?_);(· decide)) | (with_reducible refine ah (h1) ?_))
 have hop:=wV (fh l).2 hks
 rw [if_neg (by rw [e1];simp)]
 have hadd:=vC l 0 0 (by decide) rfl hlin (0,jT l) (yS hlin).symm
 rw [iU] at hadd
 have h2:=mF (jT l) (HG _)
 have hc2:=iQ (jT l)
 generalize fh (jT l) = q2 at *
 generalize fh l = q1 at *
 obtain ⟨x1,a⟩:=q1
 simp only at e1 hks hop ⊢
 subst e1
 obtain ⟨ak,⟨ac,at0⟩,aks⟩:=a
 rw [hC] at h1
 rw [cH] at hop
 obtain ⟨c,t⟩:=l
 generalize lh (.mk ak ⟨ac,at0⟩ aks) = oa at *
 rcases hk with rfl | rfl
 ·rw [if_pos rfl]
  clear h2 hc2 hadd HG
  cases no with
  | false =>
   simp only [Bool.false_eq_true,if_false]
   rw [hC,cH]
   refine aD [] Tryz.func69 rfl Tryz.ntmps69 (Nat.le_of_ble_eq_true rfl) (Nat.le_of_ble_eq_true rfl) fun w0 G0 B0 Pr hB0=>?_
   simp only [aO,aA,List.cons_append,List.nil_append]
   repeat' (first | (with_reducible refine hY _ ?_;clear hY Y) | ((with_reducible first | refine an rfl (ar fun K' hK'=>aa ?_) | refine hK' _ (ab fun Y hY=>aa ?_) | refine ab fun Y hY=>aa ?_ | refine ae tk0 bI (ab fun Y hY=>aa ?_) | refine aa ?_ | refine ao ?_);(try clear hK' K');(try dsimp only [aop]);try simp only [go_sem,↓reduceIte,Nat.reduceEqDiff,Nat.reduceLT,Nat.reduceLeDiff,Nat.reduceAdd,Nat.reduceSub,Nat.reduceMul,Nat.reduceBEq,Nat.reduceBNe,Nat.reducePow,Int.reduceToNat,Int.reduceLE,Int.reduceLT,Int.reduceMul,Int.reduceEq,Int.reducePow,Int.reduceAdd,Int.reduceSub,Int.reduceNeg,reduceCtorEq,bI,Tryz.results69]) | (with_reducible first | refine af ?_ | refine ai ?_ | refine aj ?_ | refine ay fun K hK=>?_ | refine ap ?_ | refine aq ?_ | refine aS ?_ | refine av ?_ | refine au ?_) | (with_reducible refine hK _ ?_;clear hK K) | ((with_reducible refine ag ?_ ?_);(· decide)) | (with_reducible refine ah (h1) ?_) | (with_reducible refine ce (cr) ?_))
  | true =>
   simp only [if_true]
   obtain ⟨ok,⟨oc,ot⟩,oks⟩:=oa
   rw [cH] at hop
   rw [hC,cH]
   refine aD [] Tryz.func69 rfl Tryz.ntmps69 (Nat.le_of_ble_eq_true rfl) (Nat.le_of_ble_eq_true rfl) fun w0 G0 B0 Pr hB0=>?_
   simp only [aO,aA,List.cons_append,List.nil_append]
   repeat' (first | (with_reducible refine hY _ ?_;clear hY Y) | ((with_reducible first | refine an rfl (ar fun K' hK'=>aa ?_) | refine hK' _ (ab fun Y hY=>aa ?_) | refine ab fun Y hY=>aa ?_ | refine ae tk0 bI (ab fun Y hY=>aa ?_) | refine aa ?_ | refine ao ?_);(try clear hK' K');(try dsimp only [aop]);try simp only [go_sem,↓reduceIte,Nat.reduceEqDiff,Nat.reduceLT,Nat.reduceLeDiff,Nat.reduceAdd,Nat.reduceSub,Nat.reduceMul,Nat.reduceBEq,Nat.reduceBNe,Nat.reducePow,Int.reduceToNat,Int.reduceLE,Int.reduceLT,Int.reduceMul,Int.reduceEq,Int.reducePow,Int.reduceAdd,Int.reduceSub,Int.reduceNeg,reduceCtorEq,bI,Tryz.results69]) | (with_reducible first | refine af ?_ | refine ai ?_ | refine aj ?_ | refine ay fun K hK=>?_ | refine ap ?_ | refine aq ?_ | refine aS ?_ | refine av ?_ | refine au ?_) | (with_reducible refine hK _ ?_;clear hK K) | ((with_reducible refine ag ?_ ?_);(· decide)) | (with_reducible refine ah (h1) ?_) | (with_reducible refine ce (cr) ?_) | (with_reducible refine ah (hop) ?_))
 rw [if_neg (by decide)]
 rcases hc2 with e | e | ⟨e2,_,hks2⟩
 ·rw [e] at h2 ⊢
  rw [if_pos (by decide)]
  refine dB (r:=zF (b9 5)) ?_ 4 BJ
  rw [iT] at h2
  rw [di]
  clear e HG hop
  rw [cH]
  refine aD [] Tryz.func69 rfl Tryz.ntmps69 (Nat.le_of_ble_eq_true rfl) (Nat.le_of_ble_eq_true rfl) fun w0 G0 B0 Pr hB0=>?_
  simp only [aO,aA,List.cons_append,List.nil_append]
  repeat' (first | (with_reducible refine hY _ ?_;clear hY Y) | ((with_reducible first | refine an rfl (ar fun K' hK'=>aa ?_) | refine hK' _ (ab fun Y hY=>aa ?_) | refine ab fun Y hY=>aa ?_ | refine ae tk0 bI (ab fun Y hY=>aa ?_) | refine aa ?_ | refine ao ?_);(try clear hK' K');(try dsimp only [aop]);try simp only [go_sem,↓reduceIte,Nat.reduceEqDiff,Nat.reduceLT,Nat.reduceLeDiff,Nat.reduceAdd,Nat.reduceSub,Nat.reduceMul,Nat.reduceBEq,Nat.reduceBNe,Nat.reducePow,Int.reduceToNat,Int.reduceLE,Int.reduceLT,Int.reduceMul,Int.reduceEq,Int.reducePow,Int.reduceAdd,Int.reduceSub,Int.reduceNeg,reduceCtorEq,bI,Tryz.results69]) | (with_reducible first | refine af ?_ | refine ai ?_ | refine aj ?_ | refine ay fun K hK=>?_ | refine ap ?_ | refine aq ?_ | refine aS ?_ | refine av ?_ | refine au ?_) | (with_reducible refine hK _ ?_;clear hK K) | ((with_reducible refine ag ?_ ?_);(· decide)) | (with_reducible refine ah (h1) ?_) | (with_reducible refine ce (cr) ?_) | (with_reducible refine ah (hadd) ?_) | (with_reducible refine ah (h2) ?_))
 ·rw [e] at h2 ⊢
  rw [if_pos (by decide)]
  refine dB (r:=zF (b9 3)) ?_ 4 BI
  rw [ju] at h2
  rw [mo]
  clear e HG hop
  rw [cH]
  refine aD [] Tryz.func69 rfl Tryz.ntmps69 (Nat.le_of_ble_eq_true rfl) (Nat.le_of_ble_eq_true rfl) fun w0 G0 B0 Pr hB0=>?_
  simp only [aO,aA,List.cons_append,List.nil_append]
  repeat' (first | (with_reducible refine hY _ ?_;clear hY Y) | ((with_reducible first | refine an rfl (ar fun K' hK'=>aa ?_) | refine hK' _ (ab fun Y hY=>aa ?_) | refine ab fun Y hY=>aa ?_ | refine ae tk0 bI (ab fun Y hY=>aa ?_) | refine aa ?_ | refine ao ?_);(try clear hK' K');(try dsimp only [aop]);try simp only [go_sem,↓reduceIte,Nat.reduceEqDiff,Nat.reduceLT,Nat.reduceLeDiff,Nat.reduceAdd,Nat.reduceSub,Nat.reduceMul,Nat.reduceBEq,Nat.reduceBNe,Nat.reducePow,Int.reduceToNat,Int.reduceLE,Int.reduceLT,Int.reduceMul,Int.reduceEq,Int.reducePow,Int.reduceAdd,Int.reduceSub,Int.reduceNeg,reduceCtorEq,bI,Tryz.results69]) | (with_reducible first | refine af ?_ | refine ai ?_ | refine aj ?_ | refine ay fun K hK=>?_ | refine ap ?_ | refine aq ?_ | refine aS ?_ | refine av ?_ | refine au ?_) | (with_reducible refine hK _ ?_;clear hK K) | ((with_reducible refine ag ?_ ?_);(· decide)) | (with_reducible refine ah (h1) ?_) | (with_reducible refine ce (cr) ?_) | (with_reducible refine ah (hadd) ?_) | (with_reducible refine ah (h2) ?_))
 have hop2:=wV q2.2 hks2
 rw [if_neg (by rw [e2];simp)]
 obtain ⟨x2,b⟩:=q2
 simp only at e2 hks2 hop2 ⊢
 subst e2
 obtain ⟨bk,⟨bc,bt⟩,bks⟩:=b
 rw [hC] at h2
 rw [cH] at hop2
 generalize lh (.mk bk ⟨bc,bt⟩ bks) = ob at *
 clear HG hks hks2
 cases no with
 | false =>
  simp only [Bool.false_eq_true,if_false]
  clear hop hop2
  refine dB (r:=.tup [.agg [inA 5,inA 0,.sl [] 0 .full,.sl [inA ak,inA ac,.sl (aJ at0) at0.length .none,.sl (cD aks) aks.length .none,inA bk,inA bc,.sl (aJ bt) bt.length .none,.sl (cD bks) bks.length .none] 2 .full],.c .nilIface]) ?_ 6 (by
   simp [wkD,gL,foA,cD,aJ,ja,kx,cR])
  rw [cH]
  refine aD [] Tryz.func69 rfl Tryz.ntmps69 (Nat.le_of_ble_eq_true rfl) (Nat.le_of_ble_eq_true rfl) fun w0 G0 B0 Pr hB0=>?_
  simp only [aO,aA,List.cons_append,List.nil_append]
  repeat' (first | (with_reducible refine hY _ ?_;clear hY Y) | ((with_reducible first | refine an rfl (ar fun K' hK'=>aa ?_) | refine hK' _ (ab fun Y hY=>aa ?_) | refine ab fun Y hY=>aa ?_ | refine ae tk0 bI (ab fun Y hY=>aa ?_) | refine aa ?_ | refine ao ?_);(try clear hK' K');(try dsimp only [aop]);try simp only [go_sem,↓reduceIte,Nat.reduceEqDiff,Nat.reduceLT,Nat.reduceLeDiff,Nat.reduceAdd,Nat.reduceSub,Nat.reduceMul,Nat.reduceBEq,Nat.reduceBNe,Nat.reducePow,Int.reduceToNat,Int.reduceLE,Int.reduceLT,Int.reduceMul,Int.reduceEq,Int.reducePow,Int.reduceAdd,Int.reduceSub,Int.reduceNeg,reduceCtorEq,bI,Tryz.results69]) | (with_reducible first | refine af ?_ | refine ai ?_ | refine aj ?_ | refine ay fun K hK=>?_ | refine aq ?_ | refine av ?_ | refine au ?_) | (with_reducible refine hK _ ?_;clear hK K) | ((with_reducible refine ag ?_ ?_);(· decide)) | (with_reducible refine ah (h1) ?_) | (with_reducible refine ce (cr) ?_) | (with_reducible refine ah (hadd) ?_) | (with_reducible refine ah (h2) ?_))
 | true =>
  simp only [if_true]
  obtain ⟨ok,⟨oc,ot⟩,oks⟩:=oa
  obtain ⟨pk,⟨pc,pt⟩,pks⟩:=ob
  rw [cH] at hop hop2
  refine dB (r:=.tup [.agg [inA 6,inA 0,.sl [] 0 .full,.sl [inA ok,inA oc,.sl (aJ ot) ot.length .none,.sl (cD oks) oks.length .none,inA pk,inA pc,.sl (aJ pt) pt.length .none,.sl (cD pks) pks.length .none] 2 .full],.c .nilIface]) ?_ 6 (by
   simp [wkD,gL,foA,cD,aJ,ja,kx,cR])
  rw [cH]
  refine aD [] Tryz.func69 rfl Tryz.ntmps69 (Nat.le_of_ble_eq_true rfl) (Nat.le_of_ble_eq_true rfl) fun w0 G0 B0 Pr hB0=>?_
  simp only [aO,aA,List.cons_append,List.nil_append]
  repeat' (first | (with_reducible refine hY _ ?_;clear hY Y) | ((with_reducible first | refine an rfl (ar fun K' hK'=>aa ?_) | refine hK' _ (ab fun Y hY=>aa ?_) | refine ab fun Y hY=>aa ?_ | refine ae tk0 bI (ab fun Y hY=>aa ?_) | refine aa ?_ | refine ao ?_ | refine cV rfl (cT fun K' hK'=>aa ?_) | refine hK' _ _ (ab fun Y hY=>aa ?_));(try clear hK' K');(try dsimp only [aop]);try simp only [go_sem,↓reduceIte,Nat.reduceEqDiff,Nat.reduceLT,Nat.reduceLeDiff,Nat.reduceAdd,Nat.reduceSub,Nat.reduceMul,Nat.reduceBEq,Nat.reduceBNe,Nat.reducePow,Int.reduceToNat,Int.reduceLE,Int.reduceLT,Int.reduceMul,Int.reduceEq,Int.reducePow,Int.reduceAdd,Int.reduceSub,Int.reduceNeg,reduceCtorEq,bI,Tryz.results69]) | (with_reducible first | refine af ?_ | refine ai ?_ | refine aj ?_ | refine ay fun K hK=>?_ | refine ap ?_ | refine aq ?_ | refine aS ?_ | refine av ?_ | refine au ?_ | refine ch ?_ | refine eN fun K hK=>?_) | (with_reducible refine hK _ ?_;clear hK K) | (with_reducible refine hK _ _ ?_ ?_;(· kernel_rfl);clear hK K) | ((with_reducible refine ag ?_ ?_);(· decide)) | (with_reducible refine cg tk0 bI ?_ ?_;(· kernel_rfl)) | (with_reducible refine ah (h1) ?_) | (with_reducible refine ce (cr) ?_) | (with_reducible refine ah (hadd) ?_) | (with_reducible refine ah (h2) ?_) | (with_reducible refine ah (hop) ?_) | (with_reducible refine ah (hop2) ?_))
end Go.Proofs.YtmpdocplcgbpkaaGreatDoor
