/- Formulas in K: their variables as they stand; their value. Formulas in K: their value. Formulas in K: Value; the head of the laws. -/
import Derived.Test.YtmpdocplcgbpkaaGreatDoorZ22
import Derived.Test.YtmpdocplcgbpkaaGreatDoorZ15
import Derived.Test.YtmpdocplcgbpkaaGreatDoorZ25
namespace Go.Proofs.YtmpdocplcgbpkaaGreatDoor
set_option linter.unusedSimpArgs false
set_option linter.unusedVariables false
open Go.RowKit
theorem ki : ∀ a b : List Fo,cO (a ++ b) = cO a ++ cO b
 | [],b=>rfl
 | f :: r,b=>by rw [List.cons_append,cO,cO,ki r b,List.append_assoc]
theorem rB {ks : List Fo} {k : Nat} (h : k < ks.length) : cO (ks.take (k + 1)) = cO (ks.take k) ++ dY ks[k]:=by
 rw [List.take_succ_eq_append_getElem h,ki,cO,cO,List.append_nil]
theorem vt (ks : List Fo) (k : Nat) : (cO (ks.take k)).length≤(cO ks).length:=by
 have e : cO ks = cO (ks.take k) ++ cO (ks.drop k):=by rw [← ki,List.take_append_drop]
 rw [e,List.length_append];omega
def bV : Nat→List Nat
 | 0=>[0]
 | 1=>[1]
 | 2=>[1,3]
 | 3=>[1,3,10,11,12]
 | 4=>[1,3,10,11,12]
 | 5=>[1,3,5,10,11,12]
 | 6=>[1,3,10,11,12]
 | 7=>[1,3]
 | 8=>[3,23,24,25]
 | 9=>[3,23,24,25]
 | 10=>[3,7,23,24,25]
 | 11=>[3,23,24,25]
 | 12=>[3]
 | _=>[]
set_option maxRecDepth 100000 in
set_option maxHeartbeats 8000000 in
theorem wi : ∀ f,OkF f→(dY f).length≤1099511627776→AFn Tryz.prog 29 [.agg (foA f)] [] (.sl ((dY f).map inA) (dY f).length (.tok 20000)) [.bt (dY f).length 3] :=
 iH fun k l ks hlt0 hlk hoks ih hbd=>by
  unfold Lg at hlt0 hlk
  obtain ⟨c,t⟩:=l
  rw [dY] at hbd ⊢
  simp only at hlt0 hbd ⊢
  have hVl : (t.map (·.1)).length = t.length:=List.length_map ..
  rw [List.length_append,hVl] at hbd
  rw [foA]
  refine aD [10020] Tryz.func29 rfl Tryz.ntmps29 (Nat.le_of_ble_eq_true rfl) (Nat.le_of_ble_eq_true rfl) fun w0 G0 B0 Pr hB0=>?_
  simp only [aO,aA,List.cons_append,List.nil_append]
  repeat' (first | (with_reducible refine hY _ ?_;clear hY Y) | ((with_reducible first | refine an rfl (ar fun K' hK'=>aa ?_) | refine hK' _ (ab fun Y hY=>aa ?_) | refine ae tk0 bV (ab fun Y hY=>aa ?_));(try clear hK' K');(try dsimp only [aop]);try simp only [go_sem,↓reduceIte,Nat.reduceEqDiff,Nat.reduceLT,Nat.reduceLeDiff,Nat.reduceAdd,Nat.reduceSub,Nat.reduceMul,Nat.reduceBEq,Nat.reduceBNe,Nat.reducePow,Int.reduceToNat,Int.reduceLE,Int.reduceLT,Int.reduceMul,Int.reduceEq,Int.reducePow,Int.reduceAdd,Int.reduceSub,Int.reduceNeg,reduceCtorEq,bV,Tryz.results29]) | (with_reducible first | refine af ?_ | refine ai ?_ | refine aj ?_ | refine ay fun K hK=>?_ | refine al ?_ | refine bG ?_) | (with_reducible refine hK _ ?_;clear hK K))
  refine eu (gp (b:=10020) (t:=3) 3 (by decide) (by decide) rfl rfl) ?_
  refine bK (α:=Nat) (fun j=>[(1,.loc 10001 0),(3,.sl (((t.map (·.1)).take j).map inA) j (.tok 10020)),(10,.sl (aJ t) t.length .none),(11,inA (t.length : Int)),(12,inA (j : Int)),(10001,.bc [inA k,inA c,.sl (aJ t) t.length .none,.sl (cD ks) ks.length .none] 27),(10020,.bt j 3)])
   (fun j=>j≤t.length) (fun j=>t.length - j) 0 [1,3,10,11,12] ?_ (Nat.zero_le _) ?_
  ·simp only [go_sem,↓reduceIte,Nat.reduceEqDiff,Nat.reduceLT,Nat.reduceLeDiff,Nat.reduceAdd,Nat.reduceSub,Nat.reduceMul,Nat.reduceBEq,Nat.reduceBNe,Nat.reducePow,Int.reduceToNat,Int.reduceLE,Int.reduceLT,Int.reduceMul,Int.reduceEq,Int.reducePow,Int.reduceAdd,Int.reduceSub,Int.reduceNeg,reduceCtorEq] <;> rfl
  intro j hj ihj
  by_cases hlt : j < t.length
  ·have hlt' : ((j : Int) < (t.length : Int)) = True:=eq_true (by omega)
   have hkw:=cf (n:=j) (by omega)
   have hg0:=ez hlt
   have hfl:=cl t
   have hcl : (((t.map (·.1)).take j).map inA).length = j:=by rw [List.length_map,List.length_take,hVl];omega
   have ihj':=ihj (j + 1) (by omega) (by omega)
   have he : ((t.map (·.1)).take (j + 1)).map inA = ((t.map (·.1)).take j).map inA ++ [inA t[j].1]:=by
    rw [List.take_succ_eq_append_getElem (by omega),List.map_append,List.map_cons,List.map_nil,List.getElem_map]
   rw [he] at ihj'
   clear ihj ih hoks he
   generalize t[j] = m at *
   obtain ⟨v,x⟩:=m
   simp only at hg0 ihj'
   generalize ((t.map (·.1)).take j).map inA = TV at *
   generalize cD ks = KS at *
   repeat' (first | (with_reducible refine hY _ ?_;clear hY Y) | ((with_reducible first | refine an rfl (ar fun K' hK'=>aa ?_) | refine hK' _ (ab fun Y hY=>aa ?_) | refine ab fun Y hY=>aa ?_ | refine ae tk0 bV (ab fun Y hY=>aa ?_));(try clear hK' K');(try dsimp only [aop]);try simp only [go_sem,↓reduceIte,Nat.reduceEqDiff,Nat.reduceLT,Nat.reduceLeDiff,Nat.reduceAdd,Nat.reduceSub,Nat.reduceMul,Nat.reduceBEq,Nat.reduceBNe,Nat.reducePow,Int.reduceToNat,Int.reduceLE,Int.reduceLT,Int.reduceMul,Int.reduceEq,Int.reducePow,Int.reduceAdd,Int.reduceSub,Int.reduceNeg,reduceCtorEq,bV,Tryz.results29,hlt',hkw,hg0,hfl,hcl]) | (with_reducible first | refine af ?_ | refine ai ?_ | refine aj ?_ | refine ay fun K hK=>?_ | refine ap ?_ | refine aU ?_ | refine al ?_ | refine av ?_) | (with_reducible refine hK _ ?_;clear hK K) | ((with_reducible refine ag ?_ ?_);(· decide)) | (with_reducible refine bp ?_ ?_;(· (try and_intros) <;> first | omega | assumption | (simp only [List.length_append,List.length_map,List.length_cons,List.length_nil] <;> omega))))
   refine bi [1,3,10,11,12] (by simp only [go_sem,↓reduceIte,Nat.reduceEqDiff,Nat.reduceLT,Nat.reduceLeDiff,Nat.reduceAdd,Nat.reduceSub,Nat.reduceMul,Nat.reduceBEq,Nat.reduceBNe,Nat.reducePow,Int.reduceToNat,Int.reduceLE,Int.reduceLT,Int.reduceMul,Int.reduceEq,Int.reducePow,Int.reduceAdd,Int.reduceSub,Int.reduceNeg,reduceCtorEq];exact rfl) ?_
   exact ihj'
  have hlt' : ((j : Int) < (t.length : Int)) = False:=eq_false (by omega)
  obtain rfl : j = t.length:=by omega
  rw [List.take_of_length_le (by omega)]
  clear ihj
  repeat' (first | (with_reducible refine hY _ ?_;clear hY Y) | ((with_reducible first | refine an rfl (ar fun K' hK'=>aa ?_) | refine hK' _ (ab fun Y hY=>aa ?_) | refine ab fun Y hY=>aa ?_ | refine ae tk0 bV (ab fun Y hY=>aa ?_));(try clear hK' K');(try dsimp only [aop]);try simp only [go_sem,↓reduceIte,Nat.reduceEqDiff,Nat.reduceLT,Nat.reduceLeDiff,Nat.reduceAdd,Nat.reduceSub,Nat.reduceMul,Nat.reduceBEq,Nat.reduceBNe,Nat.reducePow,Int.reduceToNat,Int.reduceLE,Int.reduceLT,Int.reduceMul,Int.reduceEq,Int.reducePow,Int.reduceAdd,Int.reduceSub,Int.reduceNeg,reduceCtorEq,bV,Tryz.results29,hlt']) | (with_reducible first | refine af ?_ | refine ai ?_ | refine aj ?_ | refine ay fun K hK=>?_ | refine aq ?_ | refine bC ?_ | refine bg ?_ | refine al ?_ | refine bf ?_ | refine bG ?_) | (with_reducible refine hK _ ?_;clear hK K) | ((with_reducible refine ag ?_ ?_);(· decide)))
  generalize hV : t.map (·.1) = V at *
  generalize hRA : (V ++ cO ks).map inA = RA
  generalize hRL : (V ++ cO ks).length = RL
  refine bK (α:=Nat) (fun j=>[(3,.sl ((V ++ cO (ks.take j)).map inA) (t.length + (cO (ks.take j)).length) (.tok 10020)),(23,.sl (cD ks) ks.length .none),(24,inA (ks.length : Int)),(25,inA (j : Int)),(10020,.bt (t.length + (cO (ks.take j)).length) 3)])
   (fun j=>j≤ks.length) (fun j=>ks.length - j) 0 [3,23,24,25] ?_ (Nat.zero_le _) ?_
  ·simp only [go_sem,↓reduceIte,Nat.reduceEqDiff,Nat.reduceLT,Nat.reduceLeDiff,Nat.reduceAdd,Nat.reduceSub,Nat.reduceMul,Nat.reduceBEq,Nat.reduceBNe,Nat.reducePow,Int.reduceToNat,Int.reduceLE,Int.reduceLT,Int.reduceMul,Int.reduceEq,Int.reducePow,Int.reduceAdd,Int.reduceSub,Int.reduceNeg,reduceCtorEq,List.take_zero,cO,List.append_nil,List.length_nil,Nat.add_zero] <;> rfl
  intro j hj2 ihj
  by_cases hlt : j < ks.length
  ·have hlt2 : ((j : Int) < (ks.length : Int)) = True:=eq_true (by omega)
   have hkw:=cf (n:=j) (by omega)
   have hg0:=fN hlt
   have hfl:=dC ks
   have hst:=rB hlt
   have hle:=vt ks (j + 1)
   rw [hst,List.length_append] at hle
   have h1:=pZ (ih ks[j] (List.getElem_mem hlt) (by omega))
   have ihj':=ihj (j + 1) (by omega) (by omega)
   rw [hst,← List.append_assoc,List.map_append,List.length_append,← Nat.add_assoc] at ihj'
   have hcl : ((V ++ cO (ks.take j)).map inA).length = t.length + (cO (ks.take j)).length:=by rw [List.length_map,List.length_append,hVl]
   have hcl2 : ((dY ks[j]).map inA).length = (dY ks[j]).length:=List.length_map ..
   clear ihj ih hoks hst hRA hRL
   generalize ks[j] = y at *
   generalize (V ++ cO (ks.take j)).map inA = A at *
   generalize (cO (ks.take j)).length = a at *
   generalize (dY y).map inA = B at *
   generalize (dY y).length = b at *
   obtain ⟨yk,yl,ys⟩:=y
   simp only [foA] at hg0 h1
   generalize cD ks = KS at *
   have hb1 : (t.length + a + b) * 8≤140737488355328:=by omega
   repeat' (first | (with_reducible refine hY _ ?_;clear hY Y) | ((with_reducible first | refine an rfl (ar fun K' hK'=>aa ?_) | refine hK' _ (ab fun Y hY=>aa ?_) | refine ab fun Y hY=>aa ?_ | refine ae tk0 bV (ab fun Y hY=>aa ?_) | refine aa ?_);(try clear hK' K');(try dsimp only [aop]);try simp only [go_sem,↓reduceIte,Nat.reduceEqDiff,Nat.reduceLT,Nat.reduceLeDiff,Nat.reduceAdd,Nat.reduceSub,Nat.reduceMul,Nat.reduceBEq,Nat.reduceBNe,Nat.reducePow,Int.reduceToNat,Int.reduceLE,Int.reduceLT,Int.reduceMul,Int.reduceEq,Int.reducePow,Int.reduceAdd,Int.reduceSub,Int.reduceNeg,reduceCtorEq,bV,Tryz.results29,hlt2,hkw,hg0,hfl,hcl,hcl2]) | (with_reducible first | refine af ?_ | refine ai ?_ | refine aj ?_ | refine ay fun K hK=>?_ | refine ap ?_ | refine aU ?_ | refine al ?_ | refine av ?_) | (with_reducible refine hK _ ?_;clear hK K) | ((with_reducible refine ag ?_ ?_);(· decide)) | (with_reducible refine bp ?_ ?_;(· (try and_intros) <;> first | omega | assumption | (simp only [List.length_append,List.length_map,List.length_cons,List.length_nil] <;> omega))) | (with_reducible refine ah (h1) ?_))
   refine bi [3,23,24,25] (by simp only [go_sem,↓reduceIte,Nat.reduceEqDiff,Nat.reduceLT,Nat.reduceLeDiff,Nat.reduceAdd,Nat.reduceSub,Nat.reduceMul,Nat.reduceBEq,Nat.reduceBNe,Nat.reducePow,Int.reduceToNat,Int.reduceLE,Int.reduceLT,Int.reduceMul,Int.reduceEq,Int.reducePow,Int.reduceAdd,Int.reduceSub,Int.reduceNeg,reduceCtorEq];exact rfl) ?_
   exact ihj'
  ·have hlt2 : ((j : Int) < (ks.length : Int)) = False:=eq_false (by omega)
   rw [List.take_of_length_le (by omega),← hRA,← hRL,List.length_append,hVl]
   clear ihj ih hoks hRA hRL
   generalize (V ++ cO ks).map inA = A at *
   generalize (cO ks).length = a at *
   generalize cD ks = KS at *
   repeat' (first | (with_reducible refine hY _ ?_;clear hY Y) | ((with_reducible first | refine an rfl (ar fun K' hK'=>aa ?_) | refine hK' _ (ab fun Y hY=>aa ?_) | refine ab fun Y hY=>aa ?_ | refine ae tk0 bV (ab fun Y hY=>aa ?_) | refine aa ?_ | refine ao ?_);(try clear hK' K');(try dsimp only [aop]);try simp only [go_sem,↓reduceIte,Nat.reduceEqDiff,Nat.reduceLT,Nat.reduceLeDiff,Nat.reduceAdd,Nat.reduceSub,Nat.reduceMul,Nat.reduceBEq,Nat.reduceBNe,Nat.reducePow,Int.reduceToNat,Int.reduceLE,Int.reduceLT,Int.reduceMul,Int.reduceEq,Int.reducePow,Int.reduceAdd,Int.reduceSub,Int.reduceNeg,reduceCtorEq,bV,Tryz.results29,hlt2]) | (with_reducible first | refine af ?_ | refine ai ?_ | refine aj ?_ | refine ay fun K hK=>?_ | refine aq ?_ | refine bC ?_ | refine bg ?_ | refine au ?_ | refine bf ?_) | (with_reducible refine hK _ ?_;clear hK K) | ((with_reducible refine ag ?_ ?_);(· decide)))
theorem uy (f : Fo) (hok : OkF f) (h : (dY f).length≤1099511627776) : AFn Tryz.prog 29 [.agg (foA f)] [] (.sl ((dY f).map inA) (dY f).length .none) []:=pZ (wi f hok h)
def bT : Nat→List Nat
 | 0=>[0,1]
 | 1=>[1,2]
 | 2=>[1,2,6]
 | 3=>[6]
 | 4=>[1,2]
 | 5=>[1,2,7]
 | 6=>[1,7,19,20,21]
 | 7=>[1,7,19,20,21]
 | 8=>[1,7,9,19,20,21]
 | 9=>[1,7,9,10,19,20,21]
 | 10=>[1,7,9,19,20,21]
 | 11=>[1,7,9,10,19,20,21]
 | 12=>[]
 | 13=>[1,7,9,10,19,20,21]
 | 14=>[1,7,19,20,21]
 | 15=>[7]
 | _=>[]
set_option maxRecDepth 100000 in
set_option maxHeartbeats 8000000 in
theorem sv (l : Ln) (vs : List Int) : AFn Tryz.prog 62 [.agg (lnA l),.sl (vs.map inA) vs.length .none] [] (.tup [inA (eW l vs).1,b9 (eW l vs).2.toNat]) []:=by
 have hck:=d3 l
 unfold ip at hck
 cases hb : cY l with
 | false =>
  rw [hb,if_neg (by decide),di] at hck
  rw [show eW l vs = (0,5) by unfold eW;rw [hb];rfl,show b9 (0,(5 : Int)).2.toNat = b9 5 from rfl,di]
  refine aD [] Tryz.func62 rfl Tryz.ntmps62 (Nat.le_of_ble_eq_true rfl) (Nat.le_of_ble_eq_true rfl) fun w0 G0 B0 Pr hB0=>?_
  simp only [aO,aA,List.cons_append,List.nil_append]
  repeat' (first | (with_reducible refine hY _ ?_;clear hY Y) | ((with_reducible first | refine an rfl (ar fun K' hK'=>aa ?_) | refine hK' _ (ab fun Y hY=>aa ?_) | refine ab fun Y hY=>aa ?_ | refine ae tk0 bT (ab fun Y hY=>aa ?_) | refine aa ?_ | refine ao ?_);(try clear hK' K');(try dsimp only [aop]);try simp only [go_sem,↓reduceIte,Nat.reduceEqDiff,Nat.reduceLT,Nat.reduceLeDiff,Nat.reduceAdd,Nat.reduceSub,Nat.reduceMul,Nat.reduceBEq,Nat.reduceBNe,Nat.reducePow,Int.reduceToNat,Int.reduceLE,Int.reduceLT,Int.reduceMul,Int.reduceEq,Int.reducePow,Int.reduceAdd,Int.reduceSub,Int.reduceNeg,reduceCtorEq,bT,Tryz.results62]) | (with_reducible first | refine af ?_ | refine ai ?_ | refine aj ?_ | refine ay fun K hK=>?_ | refine ap ?_ | refine aS ?_ | refine au ?_) | (with_reducible refine hK _ ?_;clear hK K) | ((with_reducible refine ag ?_ ?_);(· decide)) | (with_reducible refine ah (hck) ?_))
 | true =>
 rw [hb,if_pos rfl,cR] at hck
 obtain ⟨⟨c1,c2⟩,hl,hm⟩:=ef hb
 have hV : eW l vs = if sa (ofN vs) l.t then (0,1) else (dK (ofN vs) l,0):=by unfold eW;rw [hb];rfl
 rw [hV]
 obtain ⟨c,t⟩:=l
 simp only at c1 c2 hl hm ⊢
 refine aD [] Tryz.func62 rfl Tryz.ntmps62 (Nat.le_of_ble_eq_true rfl) (Nat.le_of_ble_eq_true rfl) fun w0 G0 B0 Pr hB0=>?_
 simp only [aO,aA,List.cons_append,List.nil_append]
 repeat' (first | (with_reducible refine hY _ ?_;clear hY Y) | ((with_reducible first | refine an rfl (ar fun K' hK'=>aa ?_) | refine hK' _ (ab fun Y hY=>aa ?_) | refine ab fun Y hY=>aa ?_ | refine ae tk0 bT (ab fun Y hY=>aa ?_) | refine aa ?_);(try clear hK' K');(try dsimp only [aop]);try simp only [go_sem,↓reduceIte,Nat.reduceEqDiff,Nat.reduceLT,Nat.reduceLeDiff,Nat.reduceAdd,Nat.reduceSub,Nat.reduceMul,Nat.reduceBEq,Nat.reduceBNe,Nat.reducePow,Int.reduceToNat,Int.reduceLE,Int.reduceLT,Int.reduceMul,Int.reduceEq,Int.reducePow,Int.reduceAdd,Int.reduceSub,Int.reduceNeg,reduceCtorEq,bT,Tryz.results62]) | (with_reducible first | refine af ?_ | refine ai ?_ | refine aj ?_ | refine ay fun K hK=>?_ | refine aq ?_ | refine al ?_ | refine av ?_ | refine bG ?_) | (with_reducible refine hK _ ?_;clear hK K) | ((with_reducible refine ag ?_ ?_);(· decide)) | (with_reducible refine ah (hck) ?_) | (with_reducible refine ce (cr) ?_))
 refine bK (α:=Nat) (fun k=>[(1,.sl (vs.map inA) vs.length .none),(7,inA (c + dI (ofN vs) (t.take k))),(19,.sl (aJ t) t.length .none),(20,inA (t.length : Int)),(21,inA (k : Int))])
  (fun k=>k≤t.length∧∀ m ∈ t.take k,-16777216≤ofN vs m.1∧ofN vs m.1≤16777216) (fun k=>t.length - k) 0 [1,7,19,20,21] ?_ ⟨Nat.zero_le _,fun m hm=>absurd hm List.not_mem_nil⟩ ?_
 ·simp only [go_sem,↓reduceIte,Nat.reduceEqDiff,Nat.reduceLT,Nat.reduceLeDiff,Nat.reduceAdd,Nat.reduceSub,Nat.reduceMul,Nat.reduceBEq,Nat.reduceBNe,Nat.reducePow,Int.reduceToNat,Int.reduceLE,Int.reduceLT,Int.reduceMul,Int.reduceEq,Int.reducePow,Int.reduceAdd,Int.reduceSub,Int.reduceNeg,reduceCtorEq,List.take_zero,dI,Int.add_zero] <;> rfl
 rintro k ⟨hk,hall⟩ ih
 by_cases hlt : k < t.length
 ·have hlt' : ((k : Int) < (t.length : Int)) = True:=eq_true (by omega)
  have hkw:=cf (n:=k) (by omega)
  have hg0:=ez hlt
  have hfl:=cl t
  have hmk:=hm _ (List.getElem_mem hlt)
  have hfa:=Aq (u:=ofN vs) hlt
  have hbd:=tU (ofN vs) (t.take k) fun m hm2=>⟨(hall m hm2).1,(hall m hm2).2,(hm m (List.mem_of_mem_take hm2)).2.2.1,(hm m (List.mem_of_mem_take hm2)).2.2.2⟩
  have hkl : (t.take k).length = k:=by rw [List.length_take];omega
  rw [hkl] at hbd
  have hvt:=vr (ofN vs) hlt
  have ih' : -16777216≤ofN vs t[k].1→ofN vs t[k].1≤16777216→_:=fun a b=>ih (k + 1) ⟨by omega,fun m hm2=>by
   rw [List.take_succ_eq_append_getElem hlt] at hm2
   rcases List.mem_append.1 hm2 with h | h
   ·exact hall m h
   ·simp at h;subst h;exact ⟨a,b⟩⟩ (by omega)
  rw [hvt] at ih'
  clear ih hall hvt hm hV hck
  generalize dI (ofN vs) (t.take k) = V at *
  generalize t[k] = m at *
  obtain ⟨v,x⟩:=m
  obtain ⟨v0,_,x1,x2⟩:=hmk
  simp only at hg0 hfa ih' x1 x2 v0
  obtain ⟨i,rfl⟩ : ∃ i : Nat,v = (i : Int):=⟨v.toNat,by omega⟩
  have hvl : (vs.map inA).length = vs.length:=List.length_map ..
  have hin : i < vs.length→(vs.map inA).getD i .u = inA (ofN vs i):=fun h=>by
   rw [mw h];unfold ofN;rw [if_pos (by omega),Int.toNat_natCast]
  have hout : ¬ i < vs.length→ofN vs i = 0:=fun h=>by unfold ofN;rw [if_neg (by omega)]
  generalize hu : ofN vs i = u at *
  by_cases hi : i < vs.length
  ·have hi' : ((i : Int) < (vs.length : Int)) = True:=eq_true (by omega)
   have hg2:=hin hi
   clear hin hout
   by_cases h1 : u < -16777216
   ·rw [hfa (by simp [h1]),if_pos rfl]
    have h1' : (u < -16777216) = True:=eq_true h1
    clear ih'
    repeat' (first | (with_reducible refine hY _ ?_;clear hY Y) | ((with_reducible first | refine an rfl (ar fun K' hK'=>aa ?_) | refine hK' _ (ab fun Y hY=>aa ?_) | refine bl rfl (ab fun Y hY=>aa ?_) | refine ab fun Y hY=>aa ?_ | refine ae tk0 bT (ab fun Y hY=>aa ?_) | refine aa ?_ | refine ao ?_);(try clear hK' K');(try dsimp only [aop]);try simp only [go_sem,↓reduceIte,Nat.reduceEqDiff,Nat.reduceLT,Nat.reduceLeDiff,Nat.reduceAdd,Nat.reduceSub,Nat.reduceMul,Nat.reduceBEq,Nat.reduceBNe,Nat.reducePow,Int.reduceToNat,Int.reduceLE,Int.reduceLT,Int.reduceMul,Int.reduceEq,Int.reducePow,Int.reduceAdd,Int.reduceSub,Int.reduceNeg,reduceCtorEq,bT,Tryz.results62,hlt',hkw,hg0,hfl,hi',hg2,hvl,h1']) | (with_reducible first | refine af ?_ | refine bh rfl ?_ | refine cS ?_ ?_ | refine ai ?_ | refine aj ?_ | refine ay fun K hK=>?_ | refine ap ?_ | refine aS ?_ | refine bb ?_ | refine al ?_ | refine av ?_ | refine au ?_) | (with_reducible refine hK _ ?_;clear hK K) | ((with_reducible first | refine aG ?_ ?_ | refine ag ?_ ?_);(· decide)) | (with_reducible refine bp ?_ ?_;(· (try and_intros) <;> first | omega | assumption | (simp only [List.length_append,List.length_map,List.length_cons,List.length_nil] <;> omega))))
    all_goals rfl
   have h1' : (u < -16777216) = False:=eq_false h1
   by_cases h2 : 16777216 < u
   ·rw [hfa (by simp [h2]),if_pos rfl]
    have h2' : ((16777216 : Int) < u) = True:=eq_true h2
    clear ih'
    repeat' (first | (with_reducible refine hY _ ?_;clear hY Y) | ((with_reducible first | refine an rfl (ar fun K' hK'=>aa ?_) | refine hK' _ (ab fun Y hY=>aa ?_) | refine bl rfl (ab fun Y hY=>aa ?_) | refine ab fun Y hY=>aa ?_ | refine ar fun K' hK'=>aa ?_ | refine ae tk0 bT (ab fun Y hY=>aa ?_) | refine aa ?_ | refine ao ?_);(try clear hK' K');(try dsimp only [aop]);try simp only [go_sem,↓reduceIte,Nat.reduceEqDiff,Nat.reduceLT,Nat.reduceLeDiff,Nat.reduceAdd,Nat.reduceSub,Nat.reduceMul,Nat.reduceBEq,Nat.reduceBNe,Nat.reducePow,Int.reduceToNat,Int.reduceLE,Int.reduceLT,Int.reduceMul,Int.reduceEq,Int.reducePow,Int.reduceAdd,Int.reduceSub,Int.reduceNeg,reduceCtorEq,bT,Tryz.results62,hlt',hkw,hg0,hfl,hi',hg2,hvl,h1',h2']) | (with_reducible first | refine af ?_ | refine aL ?_ | refine ai ?_ | refine aj ?_ | refine ay fun K hK=>?_ | refine ap ?_ | refine aS ?_ | refine bb ?_ | refine al ?_ | refine av ?_ | refine au ?_) | (with_reducible refine hK _ ?_;clear hK K) | ((with_reducible first | refine aG ?_ ?_ | refine ag ?_ ?_);(· decide)) | (with_reducible refine bp ?_ ?_;(· (try and_intros) <;> first | omega | assumption | (simp only [List.length_append,List.length_map,List.length_cons,List.length_nil] <;> omega))))
    all_goals rfl
   have h2' : ((16777216 : Int) < u) = False:=eq_false h2
   have ih3:=ih' (by omega) (by omega)
   obtain ⟨b1,b2⟩:=tE (x:=u) (y:=x) (by omega) (by omega) x1 x2
   have hw1 : IntKind.i64.wrap (x * u) = u * x:=by rw [Int.mul_comm];exact aY (by omega) (by omega)
   have hw2 : IntKind.i64.wrap (c + V + u * x) = c + (V + u * x):=by rw [aY (by omega) (by omega)];omega
   clear ih' hfa
   repeat' (first | (with_reducible refine hY _ ?_;clear hY Y) | ((with_reducible first | refine an rfl (ar fun K' hK'=>aa ?_) | refine hK' _ (ab fun Y hY=>aa ?_) | refine bl rfl (ab fun Y hY=>aa ?_) | refine ab fun Y hY=>aa ?_ | refine ar fun K' hK'=>aa ?_ | refine ae tk0 bT (ab fun Y hY=>aa ?_));(try clear hK' K');(try dsimp only [aop]);try simp only [go_sem,↓reduceIte,Nat.reduceEqDiff,Nat.reduceLT,Nat.reduceLeDiff,Nat.reduceAdd,Nat.reduceSub,Nat.reduceMul,Nat.reduceBEq,Nat.reduceBNe,Nat.reducePow,Int.reduceToNat,Int.reduceLE,Int.reduceLT,Int.reduceMul,Int.reduceEq,Int.reducePow,Int.reduceAdd,Int.reduceSub,Int.reduceNeg,reduceCtorEq,bT,Tryz.results62,hlt',hkw,hg0,hfl,hi',hg2,hvl,h1',h2',hw1,hw2]) | (with_reducible first | refine af ?_ | refine aL ?_ | refine ai ?_ | refine aj ?_ | refine ay fun K hK=>?_ | refine ap ?_ | refine aq ?_ | refine aU ?_ | refine al ?_ | refine av ?_) | (with_reducible refine hK _ ?_;clear hK K) | ((with_reducible first | refine aG ?_ ?_ | refine ag ?_ ?_);(· decide)) | (with_reducible refine bp ?_ ?_;(· (try and_intros) <;> first | omega | assumption | (simp only [List.length_append,List.length_map,List.length_cons,List.length_nil] <;> omega))))
   refine bi [1,7,19,20,21] (by simp only [go_sem,↓reduceIte,Nat.reduceEqDiff,Nat.reduceLT,Nat.reduceLeDiff,Nat.reduceAdd,Nat.reduceSub,Nat.reduceMul,Nat.reduceBEq,Nat.reduceBNe,Nat.reducePow,Int.reduceToNat,Int.reduceLE,Int.reduceLT,Int.reduceMul,Int.reduceEq,Int.reducePow,Int.reduceAdd,Int.reduceSub,Int.reduceNeg,reduceCtorEq];exact rfl) ?_
   exact ih3
  ·have hi' : ((i : Int) < (vs.length : Int)) = False:=eq_false (by omega)
   have hu0:=hout hi
   subst hu0
   have ih3:=ih' (by omega) (by omega)
   clear hin hout ih' hfa
   have hw1 : IntKind.i64.wrap (x * 0) = 0:=by rw [Int.mul_zero];rfl
   have hw2 : IntKind.i64.wrap (c + V + 0) = c + (V + 0 * x):=by rw [aY (by omega) (by omega)];omega
   repeat' (first | (with_reducible refine hY _ ?_;clear hY Y) | ((with_reducible first | refine an rfl (ar fun K' hK'=>aa ?_) | refine hK' _ (ab fun Y hY=>aa ?_) | refine bl rfl (ab fun Y hY=>aa ?_) | refine ab fun Y hY=>aa ?_ | refine ar fun K' hK'=>aa ?_ | refine ae tk0 bT (ab fun Y hY=>aa ?_));(try clear hK' K');(try dsimp only [aop]);try simp only [go_sem,↓reduceIte,Nat.reduceEqDiff,Nat.reduceLT,Nat.reduceLeDiff,Nat.reduceAdd,Nat.reduceSub,Nat.reduceMul,Nat.reduceBEq,Nat.reduceBNe,Nat.reducePow,Int.reduceToNat,Int.reduceLE,Int.reduceLT,Int.reduceMul,Int.reduceEq,Int.reducePow,Int.reduceAdd,Int.reduceSub,Int.reduceNeg,reduceCtorEq,bT,Tryz.results62,hlt',hkw,hg0,hfl,hi',hvl,hw1,hw2]) | (with_reducible first | refine af ?_ | refine aL ?_ | refine ai ?_ | refine aj ?_ | refine ay fun K hK=>?_ | refine ap ?_ | refine aq ?_ | refine aU ?_ | refine al ?_ | refine av ?_) | (with_reducible refine hK _ ?_;clear hK K) | ((with_reducible first | refine aG ?_ ?_ | refine ag ?_ ?_);(· decide)) | (with_reducible refine bp ?_ ?_;(· (try and_intros) <;> first | omega | assumption | (simp only [List.length_append,List.length_map,List.length_cons,List.length_nil] <;> omega))))
   refine bi [1,7,19,20,21] (by simp only [go_sem,↓reduceIte,Nat.reduceEqDiff,Nat.reduceLT,Nat.reduceLeDiff,Nat.reduceAdd,Nat.reduceSub,Nat.reduceMul,Nat.reduceBEq,Nat.reduceBNe,Nat.reducePow,Int.reduceToNat,Int.reduceLE,Int.reduceLT,Int.reduceMul,Int.reduceEq,Int.reducePow,Int.reduceAdd,Int.reduceSub,Int.reduceNeg,reduceCtorEq];exact rfl) ?_
   exact ih3
 ·have hlt' : ((k : Int) < (t.length : Int)) = False:=eq_false (by omega)
  rw [List.take_of_length_le (by omega)] at hall ⊢
  have hf : sa (ofN vs) t = false:=by
   cases h : sa (ofN vs) t with
   | false=>rfl
   | true =>
    obtain ⟨m,hm1,hm2⟩:=List.any_eq_true.1 h
    have:=hall m hm1
    simp at hm2;omega
  rw [hf,if_neg (by decide)]
  clear ih hall
  repeat' (first | (with_reducible refine hY _ ?_;clear hY Y) | ((with_reducible first | refine an rfl (ar fun K' hK'=>aa ?_) | refine hK' _ (ab fun Y hY=>aa ?_) | refine ab fun Y hY=>aa ?_ | refine ae tk0 bT (ab fun Y hY=>aa ?_) | refine aa ?_ | refine ao ?_);(try clear hK' K');(try dsimp only [aop]);try simp only [go_sem,↓reduceIte,Nat.reduceEqDiff,Nat.reduceLT,Nat.reduceLeDiff,Nat.reduceAdd,Nat.reduceSub,Nat.reduceMul,Nat.reduceBEq,Nat.reduceBNe,Nat.reducePow,Int.reduceToNat,Int.reduceLE,Int.reduceLT,Int.reduceMul,Int.reduceEq,Int.reducePow,Int.reduceAdd,Int.reduceSub,Int.reduceNeg,reduceCtorEq,bT,Tryz.results62,hlt']) | (with_reducible first | refine af ?_ | refine ai ?_ | refine aj ?_ | refine ay fun K hK=>?_ | refine aq ?_ | refine bC ?_ | refine bg ?_ | refine au ?_ | refine bf ?_) | (with_reducible refine hK _ ?_;clear hK K) | ((with_reducible refine ag ?_ ?_);(· decide)))
  all_goals rfl
end Go.Proofs.YtmpdocplcgbpkaaGreatDoor
namespace Go.Proofs.YtmpdocplcgbpkaaGreatDoor
set_option linter.unusedSimpArgs false
set_option linter.unusedVariables false
open Go.RowKit
mutual
def dl (vs : List Int) : Fo→Bool
 | .mk k l ks=>if k = 0 then true else if k = 4 then !kS vs ks else if k = 5 then gH vs ks else if k = 6 then gI vs ks else if k = 2∨k = 3 then decide ((eW l vs).2 = 0) && (decide ((eW l vs).1 = 0) || (decide ((eW l vs).1 < 0) && decide (k = 2))) else false
def kS (vs : List Int) : List Fo→Bool
 | []=>false
 | f :: _=>dl vs f
def gH (vs : List Int) : List Fo→Bool
 | []=>true
 | f :: r=>dl vs f && gH vs r
def gI (vs : List Int) : List Fo→Bool
 | []=>false
 | f :: r=>dl vs f || gI vs r
end
theorem lN (vs : List Int) : ∀ l : List Fo,gH vs l = !l.any fun y=>!dl vs y
 | []=>rfl
 | f :: r=>by rw [gH,lN vs r,List.any_cons];cases dl vs f <;> simp
theorem lO (vs : List Int) : ∀ l : List Fo,gI vs l = l.any (dl vs)
 | []=>rfl
 | f :: r=>by rw [gI,lO vs r,List.any_cons]
theorem xq (l : Ln) (vs : List Int) : (eW l vs).2 = 0∨(eW l vs).2 = 1∨(eW l vs).2 = 5:=by
 unfold eW
 split
 ·exact .inr (.inr rfl)
 ·split
  ·exact .inr (.inl rfl)
  ·exact .inl rfl
def aB : Nat→List Nat
 | 0=>[0,1]
 | 1=>[2,3]
 | 2=>[2,3,8]
 | 3=>[]
 | 4=>[2,3,8]
 | 5=>[2,3]
 | 6=>[2,3,8]
 | 7=>[2,3]
 | 8=>[2,3,8]
 | 9=>[2,3]
 | 10=>[2,3,8]
 | 11=>[2,3,8]
 | 12=>[2,3]
 | 13=>[2,5,6]
 | 14=>[]
 | _=>[]
def eD : Nat→List Nat
 | 0=>[0,1]
 | 1=>[1,2]
 | _=>[]
def eE : Nat→List Nat
 | 0=>[0,1]
 | 1=>[1,2]
 | _=>[]
set_option maxRecDepth 100000 in
set_option maxHeartbeats 16000000 in
theorem zE (vs : List Int) : ∀ f,OkF f→dQ f = true→AFn Tryz.prog 30 [.agg (foA f),.sl (vs.map inA) vs.length .none] [] (.c (.bool (dl vs f))) [] :=
 iH fun k l ks hlt0 hlk hoks ih hfi=>by
  rw [dQ,Bool.and_eq_true,j4] at hfi
  obtain ⟨hokh,hall⟩:=hfi
  have ihk : ∀ y ∈ ks,AFn Tryz.prog 30 [.agg (foA y),.sl (vs.map inA) vs.length .none] [] (.c (.bool (dl vs y))) []:=fun y hy=>ih y hy (List.all_eq_true.1 hall y hy)
  clear ih hall hoks
  by_cases k0 : k = 0
  ·have b0 : (k = 0) = True:=eq_true k0
   rw [foA,dl,if_pos k0]
   generalize cD ks = KS at *
   refine aD [] Tryz.func30 rfl Tryz.ntmps30 (Nat.le_of_ble_eq_true rfl) (Nat.le_of_ble_eq_true rfl) fun w0 G0 B0 Pr hB0=>?_
   simp only [aO,aA,List.cons_append,List.nil_append]
   repeat' (first | (with_reducible refine hY _ ?_;clear hY Y) | ((with_reducible first | refine an rfl (ar fun K' hK'=>aa ?_) | refine hK' _ (ab fun Y hY=>aa ?_) | refine ab fun Y hY=>aa ?_ | refine ae tk0 aB (ab fun Y hY=>aa ?_) | refine aa ?_ | refine ao ?_);(try clear hK' K');(try dsimp only [aop]);try simp only [go_sem,seval,-Int.reduceNatCast,-Int.reduceNatCast',aB,Tryz.results30,b0]) | (with_reducible first | refine af ?_ | refine ai ?_ | refine aj ?_ | refine ay fun K hK=>?_ | refine ap ?_ | refine aS ?_ | refine bb ?_ | refine al ?_ | refine au ?_) | (with_reducible refine hK _ ?_;clear hK K) | ((with_reducible refine ag ?_ ?_);(· decide)))
  have a0 : (k = 0) = False:=eq_false k0
  by_cases k4 : k = 4
  ·have b4 : (k = 4) = True:=eq_true k4
   rw [dl,if_neg k0,if_pos k4]
   have hn : ks.length = 1:=by
    unfold okH at hokh
    rw [if_neg (by omega),if_neg (by omega),if_pos k4] at hokh
    simp at hokh;omega
   obtain ⟨y,rfl⟩ : ∃ y,ks = [y]:=by
    match ks,hn with
    | [y],_=>exact ⟨y,rfl⟩
   have h1:=ihk y (by simp)
   rw [kS]
   generalize dl vs y = R at *
   clear ihk hokh
   obtain ⟨yk,yl,ys⟩:=y
   rw [foA,cD,cD,List.append_nil]
   simp only [foA] at h1 ⊢
   refine aD [] Tryz.func30 rfl Tryz.ntmps30 (Nat.le_of_ble_eq_true rfl) (Nat.le_of_ble_eq_true rfl) fun w0 G0 B0 Pr hB0=>?_
   simp only [aO,aA,List.cons_append,List.nil_append]
   repeat' (first | (with_reducible refine hY _ ?_;clear hY Y) | ((with_reducible first | refine an rfl (ar fun K' hK'=>aa ?_) | refine hK' _ (ab fun Y hY=>aa ?_) | refine ab fun Y hY=>aa ?_ | refine ae tk0 aB (ab fun Y hY=>aa ?_) | refine aa ?_ | refine ao ?_ | refine cV rfl (cT fun K' hK'=>aa ?_) | refine hK' _ _ (ab fun Y hY=>aa ?_));(try clear hK' K');(try dsimp only [aop]);try simp only [go_sem,seval,-Int.reduceNatCast,-Int.reduceNatCast',aB,Tryz.results30,a0,b4]) | (with_reducible first | refine af ?_ | refine ai ?_ | refine aj ?_ | refine ay fun K hK=>?_ | refine ap ?_ | refine aq ?_ | refine aS ?_ | refine bb ?_ | refine al ?_ | refine au ?_ | refine ch ?_ | refine eN fun K hK=>?_) | (with_reducible refine hK _ ?_;clear hK K) | (with_reducible refine hK _ _ ?_ ?_;(· kernel_rfl);clear hK K) | ((with_reducible refine ag ?_ ?_);(· decide)) | (with_reducible refine cg tk0 aB ?_ ?_;(· kernel_rfl)) | (with_reducible refine bp ?_ ?_;(· (try and_intros) <;> first | omega | assumption | (simp only [List.length_append,List.length_map,List.length_cons,List.length_nil] <;> omega))) | (with_reducible refine ah (h1) ?_))
  have a4 : (k = 4) = False:=eq_false k4
  have hcl1 : ∀ y ∈ ks,AFn Tryz.prog 60 [.agg (foA y),.rf [.sl (vs.map inA) vs.length .none] 0] [] (.c (.bool (!dl vs y))) []:=fun y hy=>by
   have h1:=ihk y hy
   clear ihk
   generalize dl vs y = R at *
   obtain ⟨yk,yl,ys⟩:=y
   simp only [foA] at h1 ⊢
   refine aD [] Tryz.func60 rfl Tryz.ntmps60 (Nat.le_of_ble_eq_true rfl) (Nat.le_of_ble_eq_true rfl) fun w0 G0 B0 Pr hB0=>?_
   simp only [aO,aA,List.cons_append,List.nil_append]
   repeat' (first | (with_reducible refine hY _ ?_;clear hY Y) | ((with_reducible first | refine an rfl (ar fun K' hK'=>aa ?_) | refine hK' _ (ab fun Y hY=>aa ?_) | refine ae tk0 eD (ab fun Y hY=>aa ?_) | refine aa ?_ | refine ao ?_);(try clear hK' K');(try dsimp only [aop]);try simp only [go_sem,seval,-Int.reduceNatCast,-Int.reduceNatCast',eD,Tryz.results60]) | (with_reducible first | refine af ?_ | refine ai ?_ | refine aj ?_ | refine ay fun K hK=>?_ | refine au ?_) | (with_reducible refine hK _ ?_;clear hK K) | (with_reducible refine ah (h1) ?_))
  have hcl2 : ∀ y ∈ ks,AFn Tryz.prog 61 [.agg (foA y),.rf [.sl (vs.map inA) vs.length .none] 0] [] (.c (.bool (dl vs y))) []:=fun y hy=>by
   have h1:=ihk y hy
   clear ihk
   generalize dl vs y = R at *
   obtain ⟨yk,yl,ys⟩:=y
   simp only [foA] at h1 ⊢
   refine aD [] Tryz.func61 rfl Tryz.ntmps61 (Nat.le_of_ble_eq_true rfl) (Nat.le_of_ble_eq_true rfl) fun w0 G0 B0 Pr hB0=>?_
   simp only [aO,aA,List.cons_append,List.nil_append]
   repeat' (first | (with_reducible refine hY _ ?_;clear hY Y) | ((with_reducible first | refine an rfl (ar fun K' hK'=>aa ?_) | refine hK' _ (ab fun Y hY=>aa ?_) | refine ae tk0 eE (ab fun Y hY=>aa ?_) | refine aa ?_ | refine ao ?_);(try clear hK' K');(try dsimp only [aop]);try simp only [go_sem,seval,-Int.reduceNatCast,-Int.reduceNatCast',eE,Tryz.results61]) | (with_reducible first | refine af ?_ | refine ai ?_ | refine aj ?_ | refine ay fun K hK=>?_ | refine au ?_) | (with_reducible refine hK _ ?_;clear hK K) | (with_reducible refine ah (h1) ?_))
  have hc1:=o6 ks 60 [.sl (vs.map inA) vs.length .none] (fun y=>!dl vs y) (by kernel_rfl) hlk hcl1
  have hc2:=o6 ks 61 [.sl (vs.map inA) vs.length .none] (dl vs) (by kernel_rfl) hlk hcl2
  rw [foA,dl,if_neg k0,if_neg k4,lN,lO]
  clear hcl1 hcl2 ihk hokh
  generalize (ks.any fun y=>!dl vs y) = R1 at *
  generalize ks.any (dl vs) = R2 at *
  generalize cD ks = KS at *
  by_cases k5 : k = 5
  ·have b5 : (k = 5) = True:=eq_true k5
   rw [if_pos k5]
   refine aD [] Tryz.func30 rfl Tryz.ntmps30 (Nat.le_of_ble_eq_true rfl) (Nat.le_of_ble_eq_true rfl) fun w0 G0 B0 Pr hB0=>?_
   simp only [aO,aA,List.cons_append,List.nil_append]
   repeat' (first | (with_reducible refine hY _ ?_;clear hY Y) | ((with_reducible first | refine an rfl (ar fun K' hK'=>aa ?_) | refine hK' _ (ab fun Y hY=>aa ?_));(try clear hK' K');(try dsimp only [aop]);try simp only [go_sem,seval,-Int.reduceNatCast,-Int.reduceNatCast',aB,Tryz.results30]) | (with_reducible first | refine af ?_ | refine ai ?_ | refine ay fun K hK=>?_) | ((with_reducible refine cq 1 ?_ ?_);(· rfl)) | ((with_reducible refine bD 1 tk0 aB ?_ (ab fun Y hY=>aa ?_));(· rfl);(try dsimp only [aop]);try simp only [go_sem,seval,-Int.reduceNatCast,-Int.reduceNatCast',aB,Tryz.results30]) | (with_reducible refine hK _ ?_;clear hK K))
   refine mj 10003 ⟨by decide,by decide⟩ rfl rfl (by simp only [go_sem,seval,-Int.reduceNatCast,-Int.reduceNatCast'];exact rfl) (by simp only [go_sem,seval,-Int.reduceNatCast,-Int.reduceNatCast'];exact rfl) ?_
   repeat' (first | (with_reducible refine hY _ ?_;clear hY Y) | ((with_reducible first | refine an rfl (ar fun K' hK'=>aa ?_) | refine hK' _ (ab fun Y hY=>aa ?_) | refine ab fun Y hY=>aa ?_ | refine ae tk0 aB (ab fun Y hY=>aa ?_) | refine aa ?_ | refine ao ?_);(try clear hK' K');(try dsimp only [aop]);try simp only [go_sem,seval,-Int.reduceNatCast,-Int.reduceNatCast',aB,Tryz.results30,a0,a4,b5]) | (with_reducible first | refine af ?_ | refine ai ?_ | refine aj ?_ | refine ay fun K hK=>?_ | refine ap ?_ | refine aq ?_ | refine aS ?_ | refine bb ?_ | refine al ?_ | refine au ?_) | (with_reducible refine hK _ ?_;clear hK K) | ((with_reducible refine ag ?_ ?_);(· decide)) | (with_reducible refine ah (hc1) ?_))
  have a5 : (k = 5) = False:=eq_false k5
  rw [if_neg k5]
  by_cases k6 : k = 6
  ·have b6 : (k = 6) = True:=eq_true k6
   rw [if_pos k6]
   refine aD [] Tryz.func30 rfl Tryz.ntmps30 (Nat.le_of_ble_eq_true rfl) (Nat.le_of_ble_eq_true rfl) fun w0 G0 B0 Pr hB0=>?_
   simp only [aO,aA,List.cons_append,List.nil_append]
   repeat' (first | (with_reducible refine hY _ ?_;clear hY Y) | ((with_reducible first | refine an rfl (ar fun K' hK'=>aa ?_) | refine hK' _ (ab fun Y hY=>aa ?_));(try clear hK' K');(try dsimp only [aop]);try simp only [go_sem,seval,-Int.reduceNatCast,-Int.reduceNatCast',aB,Tryz.results30]) | (with_reducible first | refine af ?_ | refine ai ?_ | refine ay fun K hK=>?_) | ((with_reducible refine cq 1 ?_ ?_);(· rfl)) | ((with_reducible refine bD 1 tk0 aB ?_ (ab fun Y hY=>aa ?_));(· rfl);(try dsimp only [aop]);try simp only [go_sem,seval,-Int.reduceNatCast,-Int.reduceNatCast',aB,Tryz.results30]) | (with_reducible refine hK _ ?_;clear hK K))
   refine mj 10003 ⟨by decide,by decide⟩ rfl rfl (by simp only [go_sem,seval,-Int.reduceNatCast,-Int.reduceNatCast'];exact rfl) (by simp only [go_sem,seval,-Int.reduceNatCast,-Int.reduceNatCast'];exact rfl) ?_
   repeat' (first | (with_reducible refine hY _ ?_;clear hY Y) | ((with_reducible first | refine an rfl (ar fun K' hK'=>aa ?_) | refine hK' _ (ab fun Y hY=>aa ?_) | refine ab fun Y hY=>aa ?_ | refine ae tk0 aB (ab fun Y hY=>aa ?_) | refine aa ?_ | refine ao ?_);(try clear hK' K');(try dsimp only [aop]);try simp only [go_sem,seval,-Int.reduceNatCast,-Int.reduceNatCast',aB,Tryz.results30,a0,a4,a5,b6]) | (with_reducible first | refine af ?_ | refine ai ?_ | refine aj ?_ | refine ay fun K hK=>?_ | refine ap ?_ | refine aq ?_ | refine aS ?_ | refine bb ?_ | refine al ?_ | refine au ?_) | (with_reducible refine hK _ ?_;clear hK K) | ((with_reducible refine ag ?_ ?_);(· decide)) | (with_reducible refine ah (hc2) ?_))
  have a6 : (k = 6) = False:=eq_false k6
  rw [if_neg k6]
  have hlv:=sv l vs
  have he:=xq l vs
  generalize eW l vs = q at *
  obtain ⟨v,e⟩:=q
  simp only at hlv he ⊢
  by_cases k23 : k = 2∨k = 3
  ·rw [if_pos k23]
   rcases he with rfl | rfl | rfl
   ·rw [show b9 (0 : Int).toNat = .c .nilIface from rfl] at hlv
    by_cases v0 : v = 0
    ·have v0' : (v = 0) = True:=eq_true v0
     rcases k23 with k2 | k3
     ·have b2 : (k = 2) = True:=eq_true k2
      simp only [v0',b2,decide_true,Bool.true_or,Bool.and_self]
      refine aD [] Tryz.func30 rfl Tryz.ntmps30 (Nat.le_of_ble_eq_true rfl) (Nat.le_of_ble_eq_true rfl) fun w0 G0 B0 Pr hB0=>?_
      simp only [aO,aA,List.cons_append,List.nil_append]
      repeat' (first | (with_reducible refine hY _ ?_;clear hY Y) | ((with_reducible first | refine an rfl (ar fun K' hK'=>aa ?_) | refine hK' _ (ab fun Y hY=>aa ?_) | refine bl rfl (ab fun Y hY=>aa ?_) | refine ab fun Y hY=>aa ?_ | refine ar fun K' hK'=>aa ?_ | refine ae tk0 aB (ab fun Y hY=>aa ?_) | refine aa ?_ | refine ao ?_);(try clear hK' K');(try dsimp only [aop]);try simp only [go_sem,seval,-Int.reduceNatCast,-Int.reduceNatCast',aB,Tryz.results30,a0,a4,a5,a6,b2,v0']) | (with_reducible first | refine af ?_ | refine bh rfl ?_ | refine aL ?_ | refine eY ?_ | refine cS ?_ ?_ | refine ai ?_ | refine aj ?_ | refine ay fun K hK=>?_ | refine ap ?_ | refine aq ?_ | refine aS ?_ | refine bb ?_ | refine al ?_ | refine av ?_ | refine au ?_) | (with_reducible refine hK _ ?_;clear hK K) | ((with_reducible first | refine aG ?_ ?_ | refine ag ?_ ?_);(· decide)) | (with_reducible refine ah (hlv) ?_) | (with_reducible refine ce (dM) ?_))
     ·have b3 : (k = 3) = True:=eq_true k3
      have a2 : (k = 2) = False:=eq_false (by omega)
      simp only [v0',decide_true,Bool.true_or,Bool.and_self]
      refine aD [] Tryz.func30 rfl Tryz.ntmps30 (Nat.le_of_ble_eq_true rfl) (Nat.le_of_ble_eq_true rfl) fun w0 G0 B0 Pr hB0=>?_
      simp only [aO,aA,List.cons_append,List.nil_append]
      repeat' (first | (with_reducible refine hY _ ?_;clear hY Y) | ((with_reducible first | refine an rfl (ar fun K' hK'=>aa ?_) | refine hK' _ (ab fun Y hY=>aa ?_) | refine bl rfl (ab fun Y hY=>aa ?_) | refine ab fun Y hY=>aa ?_ | refine ar fun K' hK'=>aa ?_ | refine ae tk0 aB (ab fun Y hY=>aa ?_) | refine aa ?_ | refine ao ?_);(try clear hK' K');(try dsimp only [aop]);try simp only [go_sem,seval,-Int.reduceNatCast,-Int.reduceNatCast',aB,Tryz.results30,a0,a4,a5,a6,a2,b3,v0']) | (with_reducible first | refine af ?_ | refine bh rfl ?_ | refine aL ?_ | refine eY ?_ | refine cS ?_ ?_ | refine ai ?_ | refine aj ?_ | refine ay fun K hK=>?_ | refine ap ?_ | refine aq ?_ | refine aS ?_ | refine bb ?_ | refine al ?_ | refine au ?_) | (with_reducible refine hK _ ?_;clear hK K) | ((with_reducible first | refine aG ?_ ?_ | refine ag ?_ ?_);(· decide)) | (with_reducible refine ah (hlv) ?_) | (with_reducible refine ce (dM) ?_))
    ·have v0' : (v = 0) = False:=eq_false v0
     by_cases v1 : v < 0
     ·have v1' : (v < 0) = True:=eq_true v1
      rcases k23 with k2 | k3
      ·have b2 : (k = 2) = True:=eq_true k2
       simp only [v0',v1',b2,decide_true,decide_false,Bool.false_or,Bool.and_self]
       refine aD [] Tryz.func30 rfl Tryz.ntmps30 (Nat.le_of_ble_eq_true rfl) (Nat.le_of_ble_eq_true rfl) fun w0 G0 B0 Pr hB0=>?_
       simp only [aO,aA,List.cons_append,List.nil_append]
       repeat' (first | (with_reducible refine hY _ ?_;clear hY Y) | ((with_reducible first | refine an rfl (ar fun K' hK'=>aa ?_) | refine hK' _ (ab fun Y hY=>aa ?_) | refine bl rfl (ab fun Y hY=>aa ?_) | refine ab fun Y hY=>aa ?_ | refine ar fun K' hK'=>aa ?_ | refine ae tk0 aB (ab fun Y hY=>aa ?_) | refine aa ?_ | refine ao ?_);(try clear hK' K');(try dsimp only [aop]);try simp only [go_sem,seval,-Int.reduceNatCast,-Int.reduceNatCast',aB,Tryz.results30,a0,a4,a5,a6,b2,v0',v1']) | (with_reducible first | refine af ?_ | refine aL ?_ | refine ai ?_ | refine aj ?_ | refine ay fun K hK=>?_ | refine ap ?_ | refine aq ?_ | refine aS ?_ | refine bb ?_ | refine al ?_ | refine av ?_ | refine au ?_) | (with_reducible refine hK _ ?_;clear hK K) | ((with_reducible first | refine aG ?_ ?_ | refine ag ?_ ?_);(· decide)) | (with_reducible refine ah (hlv) ?_) | (with_reducible refine ce (dM) ?_))
      ·have b3 : (k = 3) = True:=eq_true k3
       have a2 : (k = 2) = False:=eq_false (by omega)
       simp only [v0',v1',a2,decide_true,decide_false,Bool.false_or,Bool.and_false]
       refine aD [] Tryz.func30 rfl Tryz.ntmps30 (Nat.le_of_ble_eq_true rfl) (Nat.le_of_ble_eq_true rfl) fun w0 G0 B0 Pr hB0=>?_
       simp only [aO,aA,List.cons_append,List.nil_append]
       repeat' (first | (with_reducible refine hY _ ?_;clear hY Y) | ((with_reducible first | refine an rfl (ar fun K' hK'=>aa ?_) | refine hK' _ (ab fun Y hY=>aa ?_) | refine bl rfl (ab fun Y hY=>aa ?_) | refine ab fun Y hY=>aa ?_ | refine ar fun K' hK'=>aa ?_ | refine ae tk0 aB (ab fun Y hY=>aa ?_) | refine aa ?_ | refine ao ?_);(try clear hK' K');(try dsimp only [aop]);try simp only [go_sem,seval,-Int.reduceNatCast,-Int.reduceNatCast',aB,Tryz.results30,a0,a4,a5,a6,a2,b3,v0',v1']) | (with_reducible first | refine af ?_ | refine aL ?_ | refine ai ?_ | refine aj ?_ | refine ay fun K hK=>?_ | refine ap ?_ | refine aq ?_ | refine aS ?_ | refine bb ?_ | refine al ?_ | refine au ?_) | (with_reducible refine hK _ ?_;clear hK K) | ((with_reducible first | refine aG ?_ ?_ | refine ag ?_ ?_);(· decide)) | (with_reducible refine ah (hlv) ?_) | (with_reducible refine ce (dM) ?_))
     ·have v1' : (v < 0) = False:=eq_false v1
      simp only [v0',v1',decide_true,decide_false,Bool.false_or,Bool.false_and,Bool.and_false]
      rcases k23 with k2 | k3
      ·have b2 : (k = 2) = True:=eq_true k2
       refine aD [] Tryz.func30 rfl Tryz.ntmps30 (Nat.le_of_ble_eq_true rfl) (Nat.le_of_ble_eq_true rfl) fun w0 G0 B0 Pr hB0=>?_
       simp only [aO,aA,List.cons_append,List.nil_append]
       repeat' (first | (with_reducible refine hY _ ?_;clear hY Y) | ((with_reducible first | refine an rfl (ar fun K' hK'=>aa ?_) | refine hK' _ (ab fun Y hY=>aa ?_) | refine bl rfl (ab fun Y hY=>aa ?_) | refine ab fun Y hY=>aa ?_ | refine ar fun K' hK'=>aa ?_ | refine ae tk0 aB (ab fun Y hY=>aa ?_) | refine aa ?_ | refine ao ?_);(try clear hK' K');(try dsimp only [aop]);try simp only [go_sem,seval,-Int.reduceNatCast,-Int.reduceNatCast',aB,Tryz.results30,a0,a4,a5,a6,b2,v0',v1']) | (with_reducible first | refine af ?_ | refine bh rfl ?_ | refine aL ?_ | refine cS ?_ ?_ | refine ai ?_ | refine aj ?_ | refine ay fun K hK=>?_ | refine ap ?_ | refine aq ?_ | refine aS ?_ | refine bb ?_ | refine al ?_ | refine av ?_ | refine au ?_) | (with_reducible refine hK _ ?_;clear hK K) | ((with_reducible first | refine aG ?_ ?_ | refine ag ?_ ?_);(· decide)) | (with_reducible refine ah (hlv) ?_) | (with_reducible refine ce (dM) ?_))
      ·have b3 : (k = 3) = True:=eq_true k3
       have a2 : (k = 2) = False:=eq_false (by omega)
       refine aD [] Tryz.func30 rfl Tryz.ntmps30 (Nat.le_of_ble_eq_true rfl) (Nat.le_of_ble_eq_true rfl) fun w0 G0 B0 Pr hB0=>?_
       simp only [aO,aA,List.cons_append,List.nil_append]
       repeat' (first | (with_reducible refine hY _ ?_;clear hY Y) | ((with_reducible first | refine an rfl (ar fun K' hK'=>aa ?_) | refine hK' _ (ab fun Y hY=>aa ?_) | refine bl rfl (ab fun Y hY=>aa ?_) | refine ab fun Y hY=>aa ?_ | refine ar fun K' hK'=>aa ?_ | refine ae tk0 aB (ab fun Y hY=>aa ?_) | refine aa ?_ | refine ao ?_);(try clear hK' K');(try dsimp only [aop]);try simp only [go_sem,seval,-Int.reduceNatCast,-Int.reduceNatCast',aB,Tryz.results30,a0,a4,a5,a6,a2,b3,v0',v1']) | (with_reducible first | refine af ?_ | refine bh rfl ?_ | refine aL ?_ | refine cS ?_ ?_ | refine ai ?_ | refine aj ?_ | refine ay fun K hK=>?_ | refine ap ?_ | refine aq ?_ | refine aS ?_ | refine bb ?_ | refine al ?_ | refine au ?_) | (with_reducible refine hK _ ?_;clear hK K) | ((with_reducible first | refine aG ?_ ?_ | refine ag ?_ ?_);(· decide)) | (with_reducible refine ah (hlv) ?_) | (with_reducible refine ce (dM) ?_))
   ·rw [show b9 (1 : Int).toNat = b9 1 from rfl,oT] at hlv
    show AFn _ _ _ _ (.c (.bool false)) _
    rcases k23 with k2 | k3
    ·have b2 : (k = 2) = True:=eq_true k2
     refine aD [] Tryz.func30 rfl Tryz.ntmps30 (Nat.le_of_ble_eq_true rfl) (Nat.le_of_ble_eq_true rfl) fun w0 G0 B0 Pr hB0=>?_
     simp only [aO,aA,List.cons_append,List.nil_append]
     repeat' (first | (with_reducible refine hY _ ?_;clear hY Y) | ((with_reducible first | refine an rfl (ar fun K' hK'=>aa ?_) | refine hK' _ (ab fun Y hY=>aa ?_) | refine bl rfl (ab fun Y hY=>aa ?_) | refine ab fun Y hY=>aa ?_ | refine ae tk0 aB (ab fun Y hY=>aa ?_) | refine aa ?_ | refine ao ?_);(try clear hK' K');(try dsimp only [aop]);try simp only [go_sem,seval,-Int.reduceNatCast,-Int.reduceNatCast',aB,Tryz.results30,a0,a4,a5,a6,b2]) | (with_reducible first | refine af ?_ | refine bh rfl ?_ | refine eY ?_ | refine cS ?_ ?_ | refine ai ?_ | refine aj ?_ | refine ay fun K hK=>?_ | refine ap ?_ | refine aq ?_ | refine aS ?_ | refine bb ?_ | refine al ?_ | refine av ?_ | refine au ?_) | (with_reducible refine hK _ ?_;clear hK K) | ((with_reducible first | refine aG ?_ ?_ | refine ag ?_ ?_);(· decide)) | (with_reducible refine ah (hlv) ?_))
    ·have b3 : (k = 3) = True:=eq_true k3
     have a2 : (k = 2) = False:=eq_false (by omega)
     refine aD [] Tryz.func30 rfl Tryz.ntmps30 (Nat.le_of_ble_eq_true rfl) (Nat.le_of_ble_eq_true rfl) fun w0 G0 B0 Pr hB0=>?_
     simp only [aO,aA,List.cons_append,List.nil_append]
     repeat' (first | (with_reducible refine hY _ ?_;clear hY Y) | ((with_reducible first | refine an rfl (ar fun K' hK'=>aa ?_) | refine hK' _ (ab fun Y hY=>aa ?_) | refine bl rfl (ab fun Y hY=>aa ?_) | refine ab fun Y hY=>aa ?_ | refine ae tk0 aB (ab fun Y hY=>aa ?_) | refine aa ?_ | refine ao ?_);(try clear hK' K');(try dsimp only [aop]);try simp only [go_sem,seval,-Int.reduceNatCast,-Int.reduceNatCast',aB,Tryz.results30,a0,a4,a5,a6,a2,b3]) | (with_reducible first | refine af ?_ | refine bh rfl ?_ | refine eY ?_ | refine cS ?_ ?_ | refine ai ?_ | refine aj ?_ | refine ay fun K hK=>?_ | refine ap ?_ | refine aq ?_ | refine aS ?_ | refine bb ?_ | refine al ?_ | refine au ?_) | (with_reducible refine hK _ ?_;clear hK K) | ((with_reducible first | refine aG ?_ ?_ | refine ag ?_ ?_);(· decide)) | (with_reducible refine ah (hlv) ?_))
   ·rw [show b9 (5 : Int).toNat = b9 5 from rfl,di] at hlv
    show AFn _ _ _ _ (.c (.bool false)) _
    rcases k23 with k2 | k3
    ·have b2 : (k = 2) = True:=eq_true k2
     refine aD [] Tryz.func30 rfl Tryz.ntmps30 (Nat.le_of_ble_eq_true rfl) (Nat.le_of_ble_eq_true rfl) fun w0 G0 B0 Pr hB0=>?_
     simp only [aO,aA,List.cons_append,List.nil_append]
     repeat' (first | (with_reducible refine hY _ ?_;clear hY Y) | ((with_reducible first | refine an rfl (ar fun K' hK'=>aa ?_) | refine hK' _ (ab fun Y hY=>aa ?_) | refine bl rfl (ab fun Y hY=>aa ?_) | refine ab fun Y hY=>aa ?_ | refine ae tk0 aB (ab fun Y hY=>aa ?_) | refine aa ?_ | refine ao ?_);(try clear hK' K');(try dsimp only [aop]);try simp only [go_sem,seval,-Int.reduceNatCast,-Int.reduceNatCast',aB,Tryz.results30,a0,a4,a5,a6,b2]) | (with_reducible first | refine af ?_ | refine bh rfl ?_ | refine eY ?_ | refine cS ?_ ?_ | refine ai ?_ | refine aj ?_ | refine ay fun K hK=>?_ | refine ap ?_ | refine aq ?_ | refine aS ?_ | refine bb ?_ | refine al ?_ | refine av ?_ | refine au ?_) | (with_reducible refine hK _ ?_;clear hK K) | ((with_reducible first | refine aG ?_ ?_ | refine ag ?_ ?_);(· decide)) | (with_reducible refine ah (hlv) ?_))
    ·have b3 : (k = 3) = True:=eq_true k3
     have a2 : (k = 2) = False:=eq_false (by omega)
     refine aD [] Tryz.func30 rfl Tryz.ntmps30 (Nat.le_of_ble_eq_true rfl) (Nat.le_of_ble_eq_true rfl) fun w0 G0 B0 Pr hB0=>?_
     simp only [aO,aA,List.cons_append,List.nil_append]
     repeat' (first | (with_reducible refine hY _ ?_;clear hY Y) | ((with_reducible first | refine an rfl (ar fun K' hK'=>aa ?_) | refine hK' _ (ab fun Y hY=>aa ?_) | refine bl rfl (ab fun Y hY=>aa ?_) | refine ab fun Y hY=>aa ?_ | refine ae tk0 aB (ab fun Y hY=>aa ?_) | refine aa ?_ | refine ao ?_);(try clear hK' K');(try dsimp only [aop]);try simp only [go_sem,seval,-Int.reduceNatCast,-Int.reduceNatCast',aB,Tryz.results30,a0,a4,a5,a6,a2,b3]) | (with_reducible first | refine af ?_ | refine bh rfl ?_ | refine eY ?_ | refine cS ?_ ?_ | refine ai ?_ | refine aj ?_ | refine ay fun K hK=>?_ | refine ap ?_ | refine aq ?_ | refine aS ?_ | refine bb ?_ | refine al ?_ | refine au ?_) | (with_reducible refine hK _ ?_;clear hK K) | ((with_reducible first | refine aG ?_ ?_ | refine ag ?_ ?_);(· decide)) | (with_reducible refine ah (hlv) ?_))
  ·rw [if_neg k23]
   have a2 : (k = 2) = False:=eq_false fun h=>k23 (.inl h)
   have a3 : (k = 3) = False:=eq_false fun h=>k23 (.inr h)
   refine aD [] Tryz.func30 rfl Tryz.ntmps30 (Nat.le_of_ble_eq_true rfl) (Nat.le_of_ble_eq_true rfl) fun w0 G0 B0 Pr hB0=>?_
   simp only [aO,aA,List.cons_append,List.nil_append]
   repeat' (first | (with_reducible refine hY _ ?_;clear hY Y) | ((with_reducible first | refine an rfl (ar fun K' hK'=>aa ?_) | refine hK' _ (ab fun Y hY=>aa ?_) | refine ab fun Y hY=>aa ?_ | refine ae tk0 aB (ab fun Y hY=>aa ?_) | refine aa ?_ | refine ao ?_);(try clear hK' K');(try dsimp only [aop]);try simp only [go_sem,seval,-Int.reduceNatCast,-Int.reduceNatCast',aB,Tryz.results30,a0,a4,a5,a6,a2,a3]) | (with_reducible first | refine af ?_ | refine ai ?_ | refine aj ?_ | refine ay fun K hK=>?_ | refine aq ?_ | refine aU ?_ | refine al ?_ | refine av ?_ | refine au ?_) | (with_reducible refine hK _ ?_;clear hK K) | ((with_reducible refine ag ?_ ?_);(· decide)))
end Go.Proofs.YtmpdocplcgbpkaaGreatDoor
namespace Go.Proofs.YtmpdocplcgbpkaaGreatDoor
set_option linter.unusedSimpArgs false
set_option linter.unusedVariables false
open Go.RowKit
theorem lT {f : Fo} (h : dP f = 0) : fX 64 f = false∧szF f≤4096∧dQ f = true:=by
 unfold dP at h
 split at h
 ·cases h
 ·rename_i h1
  split at h
  ·cases h
  ·rename_i h2
   split at h
   ·rename_i h3;exact ⟨by simpa using h1,by omega,h3⟩
   ·cases h
theorem rV {f : Fo} (h : dP f = 0) : (dY f).length≤262144∧∀ v ∈ dY f,0≤v∧v < 1048576:=by
 obtain ⟨_,h2,h3⟩:=lT h
 have h4:=oz f h3
 have h5:=(pO f).1 h2
 exact ⟨by omega,oA f h3⟩
def jS (vs : List Int) (v : Int) : Bool:=decide (ofN vs v < -16777216) || decide (16777216 < ofN vs v)
def jw (f : Fo) (vs : List Int) : Bool × Nat:=if dP f ≠ 0 then (false,dP f) else if (dY f).any (jS vs) then (false,1) else (dl vs f,0)
theorem rQ {l : List Int} {p : Int→Bool} {k : Nat} (h : k < l.length) (hk : (l.take k).any p = false) (h1 : p l[k] = false) : (l.take (k + 1)).any p = false:=by
 rw [List.take_succ_eq_append_getElem h,List.any_append,hk,List.any_cons,h1];rfl
theorem ug {l : List Int} {p : Int→Bool} {k : Nat} (h : k < l.length) (h1 : p l[k] = true) : l.any p = true:=List.any_eq_true.2 ⟨_,List.getElem_mem h,h1⟩
def bH : Nat→List Nat
 | 0=>[0,1]
 | 1=>[1,2]
 | 2=>[1,2,6]
 | 3=>[6]
 | 4=>[1,2]
 | 5=>[1,2,15,16,17]
 | 6=>[1,2,15,16,17]
 | 7=>[1,2,8,15,16,17]
 | 8=>[]
 | 9=>[1,2,15,16,17]
 | 10=>[1,2]
 | _=>[]
set_option maxRecDepth 100000 in
set_option maxHeartbeats 16000000 in
theorem v8 (f : Fo) (vs : List Int) (hok : OkF f) : AFn Tryz.prog 13 [.agg (foA f),.sl (vs.map inA) vs.length .none] [] (.tup [.c (.bool (jw f vs).1),b9 (jw f vs).2]) []:=by
 have hck:=td f hok
 by_cases hc : dP f = 0
 case neg =>
  rw [show jw f vs = (false,dP f) from if_pos hc]
  rw [cK hc] at hck ⊢
  generalize dP f = e at *
  obtain ⟨k,l,ks⟩:=f
  simp only [foA] at hck ⊢
  generalize cD ks = KS at *
  refine aD [] Tryz.func13 rfl Tryz.ntmps13 (Nat.le_of_ble_eq_true rfl) (Nat.le_of_ble_eq_true rfl) fun w0 G0 B0 Pr hB0=>?_
  simp only [aO,aA,List.cons_append,List.nil_append]
  repeat' (first | (with_reducible refine hY _ ?_;clear hY Y) | ((with_reducible first | refine an rfl (ar fun K' hK'=>aa ?_) | refine hK' _ (ab fun Y hY=>aa ?_) | refine ab fun Y hY=>aa ?_ | refine ae tk0 bH (ab fun Y hY=>aa ?_) | refine aa ?_ | refine ao ?_);(try clear hK' K');(try dsimp only [aop]);try simp only [go_sem,↓reduceIte,Nat.reduceEqDiff,Nat.reduceLT,Nat.reduceLeDiff,Nat.reduceAdd,Nat.reduceSub,Nat.reduceMul,Nat.reduceBEq,Nat.reduceBNe,Nat.reducePow,Int.reduceToNat,Int.reduceLE,Int.reduceLT,Int.reduceMul,Int.reduceEq,Int.reducePow,Int.reduceAdd,Int.reduceSub,Int.reduceNeg,reduceCtorEq,bH,Tryz.results13]) | (with_reducible first | refine af ?_ | refine ai ?_ | refine aj ?_ | refine ay fun K hK=>?_ | refine ap ?_ | refine aS ?_ | refine au ?_) | (with_reducible refine hK _ ?_;clear hK K) | ((with_reducible refine ag ?_ ?_);(· decide)) | (with_reducible refine ah (hck) ?_))
 obtain ⟨hvl,hvv⟩:=rV hc
 have hga:=uy f hok (by omega)
 have hva:=zE vs f hok (lT hc).2.2
 rw [show jw f vs = if (dY f).any (jS vs) then (false,1) else (dl vs f,0) from if_neg (by simp [hc])]
 rw [hc,cR] at hck
 clear hc hok
 generalize dY f = V at *
 generalize dl vs f = T at *
 obtain ⟨k,l,ks⟩:=f
 simp only [foA] at hck hga hva ⊢
 generalize cD ks = KS at *
 have hT : V.any (jS vs) = true→(if V.any (jS vs) = true then (false,(1 : Nat)) else (T,0)) = (false,1):=fun h=>if_pos h
 have hF : V.any (jS vs) = false→(if V.any (jS vs) = true then (false,(1 : Nat)) else (T,0)) = (T,0):=fun h=>by rw [h];rfl
 generalize (if V.any (jS vs) = true then (false,(1 : Nat)) else (T,0)) = R at *
 refine aD [] Tryz.func13 rfl Tryz.ntmps13 (Nat.le_of_ble_eq_true rfl) (Nat.le_of_ble_eq_true rfl) fun w0 G0 B0 Pr hB0=>?_
 simp only [aO,aA,List.cons_append,List.nil_append]
 repeat' (first | (with_reducible refine hY _ ?_;clear hY Y) | ((with_reducible first | refine an rfl (ar fun K' hK'=>aa ?_) | refine hK' _ (ab fun Y hY=>aa ?_) | refine ab fun Y hY=>aa ?_ | refine ae tk0 bH (ab fun Y hY=>aa ?_) | refine aa ?_);(try clear hK' K');(try dsimp only [aop]);try simp only [go_sem,↓reduceIte,Nat.reduceEqDiff,Nat.reduceLT,Nat.reduceLeDiff,Nat.reduceAdd,Nat.reduceSub,Nat.reduceMul,Nat.reduceBEq,Nat.reduceBNe,Nat.reducePow,Int.reduceToNat,Int.reduceLE,Int.reduceLT,Int.reduceMul,Int.reduceEq,Int.reducePow,Int.reduceAdd,Int.reduceSub,Int.reduceNeg,reduceCtorEq,bH,Tryz.results13]) | (with_reducible first | refine af ?_ | refine ai ?_ | refine aj ?_ | refine ay fun K hK=>?_ | refine aq ?_ | refine al ?_ | refine av ?_ | refine bG ?_) | (with_reducible refine hK _ ?_;clear hK K) | ((with_reducible refine ag ?_ ?_);(· decide)) | (with_reducible refine ah (hck) ?_) | (with_reducible refine ah (hga) ?_) | (with_reducible refine ce (cr) ?_))
 refine bK (α:=Nat) (fun j=>[(1,.sl (vs.map inA) vs.length .none),(2,.loc 10002 0),(15,.sl (V.map inA) V.length .none),(16,inA (V.length : Int)),(17,inA (j : Int)),(10002,.bc [inA k,inA l.c,.sl (aJ l.t) l.t.length .none,.sl KS ks.length .none] 27)])
  (fun j=>j≤V.length∧(V.take j).any (jS vs) = false) (fun j=>V.length - j) 0 [1,2,15,16,17] ?_ ⟨Nat.zero_le _,rfl⟩ ?_
 ·simp only [go_sem,↓reduceIte,Nat.reduceEqDiff,Nat.reduceLT,Nat.reduceLeDiff,Nat.reduceAdd,Nat.reduceSub,Nat.reduceMul,Nat.reduceBEq,Nat.reduceBNe,Nat.reducePow,Int.reduceToNat,Int.reduceLE,Int.reduceLT,Int.reduceMul,Int.reduceEq,Int.reducePow,Int.reduceAdd,Int.reduceSub,Int.reduceNeg,reduceCtorEq] <;> rfl
 rintro j ⟨hj,hall⟩ ih
 by_cases hlt : j < V.length
 ·have hlt' : ((j : Int) < (V.length : Int)) = True:=eq_true (by omega)
  have hkw:=cf (n:=j) (by omega)
  have hg0:=mw hlt
  have hgd : V.getD j 0 = V[j]:=by rw [List.getD_eq_getElem?_getD,List.getElem?_eq_getElem hlt];rfl
  rw [hgd] at hg0
  have hVl : (V.map inA).length = V.length:=List.length_map ..
  have hsl : (vs.map inA).length = vs.length:=List.length_map ..
  have hv0:=hvv _ (List.getElem_mem hlt)
  have hyes : jS vs V[j] = true→_:=fun e=>hT (ug hlt e)
  have hnx : jS vs V[j] = false→_:=fun e=>ih (j + 1) ⟨by omega,rQ hlt hall e⟩ (by omega)
  clear ih hall hT hF hvv hck hga hva hgd
  generalize V[j] = v at *
  obtain ⟨i,rfl⟩ : ∃ i : Nat,v = (i : Int):=⟨v.toNat,by omega⟩
  unfold jS at hyes hnx
  by_cases hi : i < vs.length
  ·have hi' : ((i : Int) < (vs.length : Int)) = True:=eq_true (by omega)
   have hg2 : (vs.map inA).getD i .u = inA (ofN vs i):=by
    rw [mw hi];unfold ofN;rw [if_pos (by omega),Int.toNat_natCast]
   generalize ofN vs i = u at *
   by_cases h1 : u < -16777216
   ·have h1' : (u < -16777216) = True:=eq_true h1
    rw [hyes (by simp [h1])]
    clear hnx hyes
    repeat' (first | (with_reducible refine hY _ ?_;clear hY Y) | ((with_reducible first | refine an rfl (ar fun K' hK'=>aa ?_) | refine hK' _ (ab fun Y hY=>aa ?_) | refine bl rfl (ab fun Y hY=>aa ?_) | refine ab fun Y hY=>aa ?_ | refine ar fun K' hK'=>aa ?_ | refine ae tk0 bH (ab fun Y hY=>aa ?_) | refine aa ?_ | refine ao ?_);(try clear hK' K');(try dsimp only [aop]);try simp only [go_sem,↓reduceIte,Nat.reduceEqDiff,Nat.reduceLT,Nat.reduceLeDiff,Nat.reduceAdd,Nat.reduceSub,Nat.reduceMul,Nat.reduceBEq,Nat.reduceBNe,Nat.reducePow,Int.reduceToNat,Int.reduceLE,Int.reduceLT,Int.reduceMul,Int.reduceEq,Int.reducePow,Int.reduceAdd,Int.reduceSub,Int.reduceNeg,reduceCtorEq,bH,Tryz.results13,hlt',hkw,hg0,hVl,hsl,hi',hg2,h1']) | (with_reducible first | refine af ?_ | refine bh rfl ?_ | refine aL ?_ | refine cS ?_ ?_ | refine ai ?_ | refine aj ?_ | refine ay fun K hK=>?_ | refine ap ?_ | refine aS ?_ | refine bb ?_ | refine al ?_ | refine av ?_ | refine au ?_) | (with_reducible refine hK _ ?_;clear hK K) | ((with_reducible first | refine aG ?_ ?_ | refine ag ?_ ?_);(· decide)) | (with_reducible refine bp ?_ ?_;(· (try and_intros) <;> first | omega | assumption | (simp only [List.length_append,List.length_map,List.length_cons,List.length_nil] <;> omega))))
    all_goals rfl
   have h1' : (u < -16777216) = False:=eq_false h1
   by_cases h2 : 16777216 < u
   ·have h2' : ((16777216 : Int) < u) = True:=eq_true h2
    rw [hyes (by simp [h2])]
    clear hnx hyes
    repeat' (first | (with_reducible refine hY _ ?_;clear hY Y) | ((with_reducible first | refine an rfl (ar fun K' hK'=>aa ?_) | refine hK' _ (ab fun Y hY=>aa ?_) | refine bl rfl (ab fun Y hY=>aa ?_) | refine ab fun Y hY=>aa ?_ | refine ar fun K' hK'=>aa ?_ | refine ae tk0 bH (ab fun Y hY=>aa ?_) | refine aa ?_ | refine ao ?_);(try clear hK' K');(try dsimp only [aop]);try simp only [go_sem,↓reduceIte,Nat.reduceEqDiff,Nat.reduceLT,Nat.reduceLeDiff,Nat.reduceAdd,Nat.reduceSub,Nat.reduceMul,Nat.reduceBEq,Nat.reduceBNe,Nat.reducePow,Int.reduceToNat,Int.reduceLE,Int.reduceLT,Int.reduceMul,Int.reduceEq,Int.reducePow,Int.reduceAdd,Int.reduceSub,Int.reduceNeg,reduceCtorEq,bH,Tryz.results13,hlt',hkw,hg0,hVl,hsl,hi',hg2,h1',h2']) | (with_reducible first | refine af ?_ | refine aL ?_ | refine ai ?_ | refine aj ?_ | refine ay fun K hK=>?_ | refine ap ?_ | refine aS ?_ | refine bb ?_ | refine al ?_ | refine av ?_ | refine au ?_) | (with_reducible refine hK _ ?_;clear hK K) | ((with_reducible first | refine aG ?_ ?_ | refine ag ?_ ?_);(· decide)) | (with_reducible refine bp ?_ ?_;(· (try and_intros) <;> first | omega | assumption | (simp only [List.length_append,List.length_map,List.length_cons,List.length_nil] <;> omega))))
    all_goals rfl
   have h2' : ((16777216 : Int) < u) = False:=eq_false h2
   have ih3:=hnx (by simp [h1,h2])
   clear hnx hyes
   repeat' (first | (with_reducible refine hY _ ?_;clear hY Y) | ((with_reducible first | refine an rfl (ar fun K' hK'=>aa ?_) | refine hK' _ (ab fun Y hY=>aa ?_) | refine bl rfl (ab fun Y hY=>aa ?_) | refine ab fun Y hY=>aa ?_ | refine ar fun K' hK'=>aa ?_ | refine ae tk0 bH (ab fun Y hY=>aa ?_));(try clear hK' K');(try dsimp only [aop]);try simp only [go_sem,↓reduceIte,Nat.reduceEqDiff,Nat.reduceLT,Nat.reduceLeDiff,Nat.reduceAdd,Nat.reduceSub,Nat.reduceMul,Nat.reduceBEq,Nat.reduceBNe,Nat.reducePow,Int.reduceToNat,Int.reduceLE,Int.reduceLT,Int.reduceMul,Int.reduceEq,Int.reducePow,Int.reduceAdd,Int.reduceSub,Int.reduceNeg,reduceCtorEq,bH,Tryz.results13,hlt',hkw,hg0,hVl,hsl,hi',hg2,h1',h2']) | (with_reducible first | refine af ?_ | refine aL ?_ | refine ai ?_ | refine aj ?_ | refine ay fun K hK=>?_ | refine ap ?_ | refine aq ?_ | refine aU ?_ | refine al ?_ | refine av ?_) | (with_reducible refine hK _ ?_;clear hK K) | ((with_reducible first | refine aG ?_ ?_ | refine ag ?_ ?_);(· decide)) | (with_reducible refine bp ?_ ?_;(· (try and_intros) <;> first | omega | assumption | (simp only [List.length_append,List.length_map,List.length_cons,List.length_nil] <;> omega))))
   refine bi [1,2,15,16,17] (by simp only [go_sem,↓reduceIte,Nat.reduceEqDiff,Nat.reduceLT,Nat.reduceLeDiff,Nat.reduceAdd,Nat.reduceSub,Nat.reduceMul,Nat.reduceBEq,Nat.reduceBNe,Nat.reducePow,Int.reduceToNat,Int.reduceLE,Int.reduceLT,Int.reduceMul,Int.reduceEq,Int.reducePow,Int.reduceAdd,Int.reduceSub,Int.reduceNeg,reduceCtorEq];exact rfl) ?_
   exact ih3
  ·have hi' : ((i : Int) < (vs.length : Int)) = False:=eq_false (by omega)
   have hu : ofN vs i = 0:=by unfold ofN;rw [if_neg (by omega)]
   have ih3:=hnx (by rw [hu];rfl)
   clear hnx hyes
   repeat' (first | (with_reducible refine hY _ ?_;clear hY Y) | ((with_reducible first | refine an rfl (ar fun K' hK'=>aa ?_) | refine hK' _ (ab fun Y hY=>aa ?_) | refine bl rfl (ab fun Y hY=>aa ?_) | refine ab fun Y hY=>aa ?_ | refine ae tk0 bH (ab fun Y hY=>aa ?_) | refine aa ?_);(try clear hK' K');(try dsimp only [aop]);try simp only [go_sem,↓reduceIte,Nat.reduceEqDiff,Nat.reduceLT,Nat.reduceLeDiff,Nat.reduceAdd,Nat.reduceSub,Nat.reduceMul,Nat.reduceBEq,Nat.reduceBNe,Nat.reducePow,Int.reduceToNat,Int.reduceLE,Int.reduceLT,Int.reduceMul,Int.reduceEq,Int.reducePow,Int.reduceAdd,Int.reduceSub,Int.reduceNeg,reduceCtorEq,bH,Tryz.results13,hlt',hkw,hg0,hVl,hsl,hi']) | (with_reducible first | refine af ?_ | refine bh rfl ?_ | refine eY ?_ | refine cS ?_ ?_ | refine ai ?_ | refine aj ?_ | refine ay fun K hK=>?_ | refine ap ?_ | refine aq ?_ | refine aU ?_ | refine al ?_ | refine av ?_) | (with_reducible refine hK _ ?_;clear hK K) | ((with_reducible first | refine aG ?_ ?_ | refine ag ?_ ?_);(· decide)) | (with_reducible refine bp ?_ ?_;(· (try and_intros) <;> first | omega | assumption | (simp only [List.length_append,List.length_map,List.length_cons,List.length_nil] <;> omega))))
   refine bi [1,2,15,16,17] (by simp only [go_sem,↓reduceIte,Nat.reduceEqDiff,Nat.reduceLT,Nat.reduceLeDiff,Nat.reduceAdd,Nat.reduceSub,Nat.reduceMul,Nat.reduceBEq,Nat.reduceBNe,Nat.reducePow,Int.reduceToNat,Int.reduceLE,Int.reduceLT,Int.reduceMul,Int.reduceEq,Int.reducePow,Int.reduceAdd,Int.reduceSub,Int.reduceNeg,reduceCtorEq];exact rfl) ?_
   exact ih3
 ·have hlt' : ((j : Int) < (V.length : Int)) = False:=eq_false (by omega)
  rw [List.take_of_length_le (by omega)] at hall
  rw [hF hall]
  clear ih hT hF hall hck hga
  repeat' (first | (with_reducible refine hY _ ?_;clear hY Y) | ((with_reducible first | refine an rfl (ar fun K' hK'=>aa ?_) | refine hK' _ (ab fun Y hY=>aa ?_) | refine ab fun Y hY=>aa ?_ | refine ae tk0 bH (ab fun Y hY=>aa ?_) | refine aa ?_ | refine ao ?_);(try clear hK' K');(try dsimp only [aop]);try simp only [go_sem,↓reduceIte,Nat.reduceEqDiff,Nat.reduceLT,Nat.reduceLeDiff,Nat.reduceAdd,Nat.reduceSub,Nat.reduceMul,Nat.reduceBEq,Nat.reduceBNe,Nat.reducePow,Int.reduceToNat,Int.reduceLE,Int.reduceLT,Int.reduceMul,Int.reduceEq,Int.reducePow,Int.reduceAdd,Int.reduceSub,Int.reduceNeg,reduceCtorEq,bH,Tryz.results13,hlt']) | (with_reducible first | refine af ?_ | refine ai ?_ | refine aj ?_ | refine ay fun K hK=>?_ | refine aq ?_ | refine bC ?_ | refine bg ?_ | refine au ?_ | refine bf ?_) | (with_reducible refine hK _ ?_;clear hK K) | ((with_reducible refine ag ?_ ?_);(· decide)) | (with_reducible refine ah (hva) ?_))
  all_goals rfl
end Go.Proofs.YtmpdocplcgbpkaaGreatDoor
