/- Cut in K: sound forms: lin.Check, the document's Check. Cut in K: sound forms, the document's way. Cut: whatever makes all premises at most 0 makes all lines so. No program is in sight. A form's value, the document's way, in K. What a lemma's opposites say: plain. No program is in sight. -/
import Derived.Test.YtmpdocplcgbpkaaGreatDoorZ9
import Derived.Test.YtmpdocplcgbpkaaGreatDoorZ0
namespace Go.Proofs.YtmpdocplcgbpkaaGreatDoor
set_option linter.unusedSimpArgs false
set_option linter.unusedVariables false
open Go.RowKit
theorem m9 : ∀ (a b : List Tm) (last : Int),cU last (a ++ b) = true→cU last a = true
 | [],b,last,_=>rfl
 | m :: a,b,last,h=>by
  rw [List.cons_append,cU,Bool.and_eq_true] at h
  rw [cU,Bool.and_eq_true]
  exact ⟨h.1,m9 a b m.1 h.2⟩
def lG (t : List Tm) (k : Nat) : Int:=((t.take k).getLast?.map (·.1)).getD (-1)
theorem yF {t : List Tm} {k : Nat} (h0 : 0 < k) (h : k - 1 < t.length) : lG t k = t[k - 1].1:=by
 unfold lG
 have e : t.take k = t.take (k - 1) ++ [t[k - 1]]:=by
  rw [← List.take_succ_eq_append_getElem h,Nat.sub_add_cancel h0]
 rw [e,List.getLast?_append];rfl
theorem ro {t : List Tm} {k : Nat} (h : k < t.length) (hk : cU (-1) (t.take k) = true) : cU (-1) (t.take (k + 1)) = jY (lG t k) t[k]:=by
 rw [List.take_succ_eq_append_getElem h,lL,hk,Bool.true_and];rfl
theorem sX {t : List Tm} {k : Nat} (h : cU (-1) (t.take (k + 1)) = false) : cU (-1) t = false:=by
 cases hh : cU (-1) t with
 | false=>rfl
 | true =>
  rw [← List.take_append_drop (k + 1) t] at hh
  rw [m9 _ _ _ hh] at h;cases h
abbrev ip (l : Ln) : AV:=b9 (if cY l then 0 else 5)
theorem me {k : Nat} (h0 : 0 < k) (h : k≤140737488351232) : IntKind.i64.wrap ((k : Int) - 1) = ((k - 1 : Nat) : Int):=by rw [aY (by omega) (by omega)];omega
def aV : Nat→List Nat
 | 0=>[0]
 | 1=>[1]
 | 2=>[]
 | 3=>[1]
 | 4=>[1,17,18,19]
 | 5=>[1,17,18,19]
 | 6=>[1,3,4,17,18,19]
 | 7=>[]
 | 8=>[1,17,18,19]
 | 9=>[]
 | _=>[]
set_option maxRecDepth 100000 in
set_option maxHeartbeats 8000000 in
theorem d3 (l : Ln) : AFn Tryz.prog 78 [.agg (lnA l)] [] (ip l) []:=by
 obtain ⟨c,t⟩:=l
 have hcf:=oU c
 cases hc0 : cX c with
 | false =>
  rw [hc0] at hcf
  have hb : cY ⟨c,t⟩ = false:=by unfold cY;simp [hc0]
  rw [show ip ⟨c,t⟩ = b9 5 by unfold ip;simp [hb],di]
  refine aD [] Tryz.func78 rfl Tryz.ntmps78 (Nat.le_of_ble_eq_true rfl) (Nat.le_of_ble_eq_true rfl) fun w0 G0 B0 Pr hB0=>?_
  simp only [aO,aA,List.cons_append,List.nil_append]
  repeat' (first | (with_reducible refine hY _ ?_;clear hY Y) | ((with_reducible first | refine an rfl (ar fun K' hK'=>aa ?_) | refine hK' _ (ab fun Y hY=>aa ?_) | refine bl rfl (ab fun Y hY=>aa ?_) | refine ab fun Y hY=>aa ?_ | refine ae tk0 aV (ab fun Y hY=>aa ?_) | refine aa ?_ | refine ao ?_);(try clear hK' K');(try dsimp only [aop]);try simp only [go_sem,↓reduceIte,Nat.reduceEqDiff,Nat.reduceLT,Nat.reduceLeDiff,Nat.reduceAdd,Nat.reduceSub,Nat.reduceMul,Nat.reduceBEq,Nat.reduceBNe,Nat.reducePow,Int.reduceToNat,Int.reduceLE,Int.reduceLT,Int.reduceMul,Int.reduceEq,Int.reducePow,Int.reduceAdd,Int.reduceSub,Int.reduceNeg,reduceCtorEq,aV,Tryz.results78]) | (with_reducible first | refine af ?_ | refine bh rfl ?_ | refine cS ?_ ?_ | refine ai ?_ | refine aj ?_ | refine ay fun K hK=>?_ | refine ap ?_ | refine aS ?_ | refine au ?_) | (with_reducible refine hK _ ?_;clear hK K) | ((with_reducible first | refine aG ?_ ?_ | refine ag ?_ ?_);(· decide)) | (with_reducible refine ah (hcf) ?_))
 | true =>
 rw [hc0] at hcf
 by_cases h64 : 64 < t.length
 ·have h64' : ((64 : Int) < (t.length : Int)) = True:=eq_true (by omega)
  have hb : cY ⟨c,t⟩ = false:=by
   unfold cY
   rw [show decide ((⟨c,t⟩ : Ln).t.length≤64) = false from decide_eq_false (by show ¬ t.length≤64;omega),Bool.false_and,Bool.and_false]
  rw [show ip ⟨c,t⟩ = b9 5 by unfold ip;simp [hb],di]
  refine aD [] Tryz.func78 rfl Tryz.ntmps78 (Nat.le_of_ble_eq_true rfl) (Nat.le_of_ble_eq_true rfl) fun w0 G0 B0 Pr hB0=>?_
  simp only [aO,aA,List.cons_append,List.nil_append]
  repeat' (first | (with_reducible refine hY _ ?_;clear hY Y) | ((with_reducible first | refine an rfl (ar fun K' hK'=>aa ?_) | refine hK' _ (ab fun Y hY=>aa ?_) | refine bl rfl (ab fun Y hY=>aa ?_) | refine ab fun Y hY=>aa ?_ | refine ar fun K' hK'=>aa ?_ | refine ae tk0 aV (ab fun Y hY=>aa ?_) | refine aa ?_ | refine ao ?_);(try clear hK' K');(try dsimp only [aop]);try simp only [go_sem,↓reduceIte,Nat.reduceEqDiff,Nat.reduceLT,Nat.reduceLeDiff,Nat.reduceAdd,Nat.reduceSub,Nat.reduceMul,Nat.reduceBEq,Nat.reduceBNe,Nat.reducePow,Int.reduceToNat,Int.reduceLE,Int.reduceLT,Int.reduceMul,Int.reduceEq,Int.reducePow,Int.reduceAdd,Int.reduceSub,Int.reduceNeg,reduceCtorEq,aV,Tryz.results78,h64']) | (with_reducible first | refine af ?_ | refine aL ?_ | refine ai ?_ | refine aj ?_ | refine ay fun K hK=>?_ | refine ap ?_ | refine aS ?_ | refine au ?_) | (with_reducible refine hK _ ?_;clear hK K) | ((with_reducible first | refine aG ?_ ?_ | refine ag ?_ ?_);(· decide)) | (with_reducible refine ah (hcf) ?_))
 have h64' : ((64 : Int) < (t.length : Int)) = False:=eq_false (by omega)
 have hl : ip ⟨c,t⟩ = b9 (if cU (-1) t then 0 else 5):=by unfold ip cY;simp [hc0,show t.length≤64 by omega]
 rw [hl]
 refine aD [] Tryz.func78 rfl Tryz.ntmps78 (Nat.le_of_ble_eq_true rfl) (Nat.le_of_ble_eq_true rfl) fun w0 G0 B0 Pr hB0=>?_
 simp only [aO,aA,List.cons_append,List.nil_append]
 repeat' (first | (with_reducible refine hY _ ?_;clear hY Y) | ((with_reducible first | refine an rfl (ar fun K' hK'=>aa ?_) | refine hK' _ (ab fun Y hY=>aa ?_) | refine bl rfl (ab fun Y hY=>aa ?_) | refine ab fun Y hY=>aa ?_ | refine ar fun K' hK'=>aa ?_ | refine ae tk0 aV (ab fun Y hY=>aa ?_) | refine aa ?_);(try clear hK' K');(try dsimp only [aop]);try simp only [go_sem,↓reduceIte,Nat.reduceEqDiff,Nat.reduceLT,Nat.reduceLeDiff,Nat.reduceAdd,Nat.reduceSub,Nat.reduceMul,Nat.reduceBEq,Nat.reduceBNe,Nat.reducePow,Int.reduceToNat,Int.reduceLE,Int.reduceLT,Int.reduceMul,Int.reduceEq,Int.reducePow,Int.reduceAdd,Int.reduceSub,Int.reduceNeg,reduceCtorEq,aV,Tryz.results78,h64']) | (with_reducible first | refine af ?_ | refine aL ?_ | refine ai ?_ | refine aj ?_ | refine ay fun K hK=>?_ | refine aq ?_ | refine al ?_ | refine av ?_ | refine bG ?_) | (with_reducible refine hK _ ?_;clear hK K) | ((with_reducible first | refine aG ?_ ?_ | refine ag ?_ ?_);(· decide)) | (with_reducible refine ah (hcf) ?_))
 refine bK (α:=Nat) (fun k=>[(1,.loc 10001 0),(17,.sl (aJ t) t.length .none),(18,inA (t.length : Int)),(19,inA (k : Int)),(10001,.bc [inA c,.sl (aJ t) t.length .none] 24)])
  (fun k=>k≤t.length∧cU (-1) (t.take k) = true) (fun k=>t.length - k) 0 [1,17,18,19] ?_ ⟨Nat.zero_le _,rfl⟩ ?_
 ·simp only [go_sem,↓reduceIte,Nat.reduceEqDiff,Nat.reduceLT,Nat.reduceLeDiff,Nat.reduceAdd,Nat.reduceSub,Nat.reduceMul,Nat.reduceBEq,Nat.reduceBNe,Nat.reducePow,Int.reduceToNat,Int.reduceLE,Int.reduceLT,Int.reduceMul,Int.reduceEq,Int.reducePow,Int.reduceAdd,Int.reduceSub,Int.reduceNeg,reduceCtorEq] <;> rfl
 rintro k ⟨hk,hall⟩ ih
 by_cases hlt : k < t.length
 ·have hlt' : ((k : Int) < (t.length : Int)) = True:=eq_true (by omega)
  have hkw:=cf (n:=k) (by omega)
  have hg0:=ez hlt
  have hfl:=cl t
  have hst:=ro hlt hall
  have hno : jY (lG t k) t[k] = false→cU (-1) t = false:=fun e=>sX (k:=k) (hst.trans e)
  have ih' : jY (lG t k) t[k] = true→_:=fun e=>ih (k + 1) ⟨by omega,hst.trans e⟩ (by omega)
  clear ih hst
  have hpv : 0 < k→(aJ t).getD ((k - 1) * 2) .u = inA (lG t k):=fun h0=>by rw [yF h0 (by omega)];exact tb (by omega)
  have hp0 : k = 0→lG t k = -1:=fun e=>by rw [e];rfl
  generalize hL : lG t k = L at *
  generalize t[k] = m at *
  obtain ⟨v,x⟩:=m
  have hv1:=sZ v
  have hx1:=oU x
  unfold jY at hno ih'
  simp only at hno ih' hv1 hx1 hg0
  cases hvb : kT v with
  | false =>
   rw [hvb] at hno hv1
   rw [hno (by simp),if_neg (by decide),di]
   clear ih' hno hpv hp0
   repeat' (first | (with_reducible refine hY _ ?_;clear hY Y) | ((with_reducible first | refine an rfl (ar fun K' hK'=>aa ?_) | refine hK' _ (ab fun Y hY=>aa ?_) | refine ab fun Y hY=>aa ?_ | refine ae tk0 aV (ab fun Y hY=>aa ?_) | refine aa ?_ | refine ao ?_ | refine cV rfl (cT fun K' hK'=>aa ?_) | refine hK' _ _ (ab fun Y hY=>aa ?_) | refine eU rfl (ab fun Y hY=>aa ?_));(try clear hK' K');(try dsimp only [aop]);try simp only [go_sem,↓reduceIte,Nat.reduceEqDiff,Nat.reduceLT,Nat.reduceLeDiff,Nat.reduceAdd,Nat.reduceSub,Nat.reduceMul,Nat.reduceBEq,Nat.reduceBNe,Nat.reducePow,Int.reduceToNat,Int.reduceLE,Int.reduceLT,Int.reduceMul,Int.reduceEq,Int.reducePow,Int.reduceAdd,Int.reduceSub,Int.reduceNeg,reduceCtorEq,aV,Tryz.results78,hlt',hfl,hg0]) | (with_reducible first | refine af ?_ | refine bh rfl ?_ | refine eY ?_ | refine cS ?_ ?_ | refine ai ?_ | refine aj ?_ | refine ay fun K hK=>?_ | refine ap ?_ | refine aS ?_ | refine bb ?_ | refine al ?_ | refine av ?_ | refine au ?_ | refine ch ?_ | refine eN fun K hK=>?_) | (with_reducible refine hK _ ?_;clear hK K) | (with_reducible refine hK _ _ ?_ ?_;(· kernel_rfl);clear hK K) | ((with_reducible first | refine aG ?_ ?_ | refine ag ?_ ?_);(· decide)) | (with_reducible refine cg tk0 aV ?_ ?_;(· kernel_rfl)) | (with_reducible refine bp ?_ ?_;(· (try and_intros) <;> first | omega | assumption | (simp only [List.length_append,List.length_map,List.length_cons,List.length_nil] <;> omega))) | (with_reducible refine ah (hv1) ?_))
  | true =>
  rw [hvb] at hno hv1 ih'
  cases hxb : cX x with
  | false =>
   rw [hxb] at hno hx1
   rw [hno (by simp),if_neg (by decide),di]
   clear ih' hno hpv hp0
   repeat' (first | (with_reducible refine hY _ ?_;clear hY Y) | ((with_reducible first | refine an rfl (ar fun K' hK'=>aa ?_) | refine hK' _ (ab fun Y hY=>aa ?_) | refine ab fun Y hY=>aa ?_ | refine ae tk0 aV (ab fun Y hY=>aa ?_) | refine aa ?_ | refine ao ?_ | refine cV rfl (cT fun K' hK'=>aa ?_) | refine hK' _ _ (ab fun Y hY=>aa ?_) | refine eU rfl (ab fun Y hY=>aa ?_) | refine cT fun K' hK'=>aa ?_);(try clear hK' K');(try dsimp only [aop]);try simp only [go_sem,↓reduceIte,Nat.reduceEqDiff,Nat.reduceLT,Nat.reduceLeDiff,Nat.reduceAdd,Nat.reduceSub,Nat.reduceMul,Nat.reduceBEq,Nat.reduceBNe,Nat.reducePow,Int.reduceToNat,Int.reduceLE,Int.reduceLT,Int.reduceMul,Int.reduceEq,Int.reducePow,Int.reduceAdd,Int.reduceSub,Int.reduceNeg,reduceCtorEq,aV,Tryz.results78,hlt',hfl,hg0]) | (with_reducible first | refine af ?_ | refine bh rfl ?_ | refine aL ?_ | refine eY ?_ | refine cS ?_ ?_ | refine ai ?_ | refine aj ?_ | refine ay fun K hK=>?_ | refine ap ?_ | refine aS ?_ | refine bb ?_ | refine al ?_ | refine av ?_ | refine au ?_ | refine ch ?_ | refine eN fun K hK=>?_) | (with_reducible refine hK _ ?_;clear hK K) | (with_reducible refine hK _ _ ?_ ?_;(· kernel_rfl);clear hK K) | ((with_reducible first | refine aG ?_ ?_ | refine ag ?_ ?_);(· decide)) | (with_reducible refine cg tk0 aV ?_ ?_;(· kernel_rfl)) | (with_reducible refine bp ?_ ?_;(· (try and_intros) <;> first | omega | assumption | (simp only [List.length_append,List.length_map,List.length_cons,List.length_nil] <;> omega))) | (with_reducible refine ah (hv1) ?_) | (with_reducible refine ah (hx1) ?_))
  | true =>
  rw [hxb] at hno hx1 ih'
  by_cases hx0 : x = 0
  ·rw [hno (by simp [hx0]),if_neg (by decide),di]
   clear ih' hno hpv hp0
   subst hx0
   repeat' (first | (with_reducible refine hY _ ?_;clear hY Y) | ((with_reducible first | refine an rfl (ar fun K' hK'=>aa ?_) | refine hK' _ (ab fun Y hY=>aa ?_) | refine ab fun Y hY=>aa ?_ | refine ae tk0 aV (ab fun Y hY=>aa ?_) | refine aa ?_ | refine ao ?_ | refine cV rfl (cT fun K' hK'=>aa ?_) | refine hK' _ _ (ab fun Y hY=>aa ?_) | refine eU rfl (ab fun Y hY=>aa ?_) | refine cT fun K' hK'=>aa ?_);(try clear hK' K');(try dsimp only [aop]);try simp only [go_sem,↓reduceIte,Nat.reduceEqDiff,Nat.reduceLT,Nat.reduceLeDiff,Nat.reduceAdd,Nat.reduceSub,Nat.reduceMul,Nat.reduceBEq,Nat.reduceBNe,Nat.reducePow,Int.reduceToNat,Int.reduceLE,Int.reduceLT,Int.reduceMul,Int.reduceEq,Int.reducePow,Int.reduceAdd,Int.reduceSub,Int.reduceNeg,reduceCtorEq,aV,Tryz.results78,hlt',hfl,hg0]) | (with_reducible first | refine af ?_ | refine bh rfl ?_ | refine aL ?_ | refine eY ?_ | refine cS ?_ ?_ | refine ai ?_ | refine aj ?_ | refine ay fun K hK=>?_ | refine ap ?_ | refine aS ?_ | refine bb ?_ | refine al ?_ | refine av ?_ | refine au ?_ | refine ch ?_ | refine eN fun K hK=>?_) | (with_reducible refine hK _ ?_;clear hK K) | (with_reducible refine hK _ _ ?_ ?_;(· kernel_rfl);clear hK K) | ((with_reducible first | refine aG ?_ ?_ | refine ag ?_ ?_);(· decide)) | (with_reducible refine cg tk0 aV ?_ ?_;(· kernel_rfl)) | (with_reducible refine bp ?_ ?_;(· (try and_intros) <;> first | omega | assumption | (simp only [List.length_append,List.length_map,List.length_cons,List.length_nil] <;> omega))) | (with_reducible refine ah (hv1) ?_) | (with_reducible refine ah (hx1) ?_))
  by_cases hk0 : 0 < k
  ·have hk0' : ((0 : Int) < (k : Int)) = True:=eq_true (by omega)
   have hkm:=me hk0 (by omega)
   have hg1:=hpv hk0
   have hb1 : (0 : Int)≤((k - 1 : Nat) : Int):=by omega
   have hb2 : ((k - 1 : Nat) : Int) < (t.length : Int):=by omega
   have hb3 : (k - 1) * 2 < (aJ t).length:=by omega
   by_cases hvl : L < v
   ·have hvl' : (v≤L) = False:=eq_false (by omega)
    clear hno hpv hp0 hvb hxb
    repeat' (first | (with_reducible refine hY _ ?_;clear hY Y) | ((with_reducible first | refine an rfl (ar fun K' hK'=>aa ?_) | refine hK' _ (ab fun Y hY=>aa ?_) | refine ab fun Y hY=>aa ?_ | refine ae tk0 aV (ab fun Y hY=>aa ?_) | refine aa ?_ | refine cV rfl (cT fun K' hK'=>aa ?_) | refine hK' _ _ (ab fun Y hY=>aa ?_) | refine eU rfl (ab fun Y hY=>aa ?_) | refine cT fun K' hK'=>aa ?_);(try clear hK' K');(try dsimp only [aop]);try simp only [go_sem,↓reduceIte,Nat.reduceEqDiff,Nat.reduceLT,Nat.reduceLeDiff,Nat.reduceAdd,Nat.reduceSub,Nat.reduceMul,Nat.reduceBEq,Nat.reduceBNe,Nat.reducePow,Int.reduceToNat,Int.reduceLE,Int.reduceLT,Int.reduceMul,Int.reduceEq,Int.reducePow,Int.reduceAdd,Int.reduceSub,Int.reduceNeg,reduceCtorEq,aV,Tryz.results78,hlt',hfl,hg0,hx0,hk0',hkm,hg1,hvl',hkw]) | (with_reducible first | refine af ?_ | refine aL ?_ | refine ai ?_ | refine aj ?_ | refine ay fun K hK=>?_ | refine ap ?_ | refine aq ?_ | refine aU ?_ | refine al ?_ | refine av ?_ | refine ch ?_ | refine eN fun K hK=>?_) | (with_reducible refine hK _ ?_;clear hK K) | (with_reducible refine hK _ _ ?_ ?_;(· kernel_rfl);clear hK K) | ((with_reducible first | refine aG ?_ ?_ | refine ag ?_ ?_);(· decide)) | (with_reducible refine cg tk0 aV ?_ ?_;(· kernel_rfl)) | (with_reducible refine bp ?_ ?_;(· (try and_intros) <;> first | omega | assumption | (simp only [List.length_append,List.length_map,List.length_cons,List.length_nil] <;> omega))) | (with_reducible refine ah (hv1) ?_) | (with_reducible refine ah (hx1) ?_))
    refine bi [1,17,18,19] (by simp only [go_sem,↓reduceIte,Nat.reduceEqDiff,Nat.reduceLT,Nat.reduceLeDiff,Nat.reduceAdd,Nat.reduceSub,Nat.reduceMul,Nat.reduceBEq,Nat.reduceBNe,Nat.reducePow,Int.reduceToNat,Int.reduceLE,Int.reduceLT,Int.reduceMul,Int.reduceEq,Int.reducePow,Int.reduceAdd,Int.reduceSub,Int.reduceNeg,reduceCtorEq];exact rfl) ?_
    exact ih' (by simp [hx0,hvl])
   ·have hvl' : (v≤L) = True:=eq_true (by omega)
    rw [hno (by simp [hvl]),if_neg (by decide),di]
    clear ih' hno hpv hp0 hvb hxb
    repeat' (first | (with_reducible refine hY _ ?_;clear hY Y) | ((with_reducible first | refine an rfl (ar fun K' hK'=>aa ?_) | refine hK' _ (ab fun Y hY=>aa ?_) | refine ab fun Y hY=>aa ?_ | refine ae tk0 aV (ab fun Y hY=>aa ?_) | refine aa ?_ | refine ao ?_ | refine cV rfl (cT fun K' hK'=>aa ?_) | refine hK' _ _ (ab fun Y hY=>aa ?_) | refine eU rfl (ab fun Y hY=>aa ?_) | refine cT fun K' hK'=>aa ?_);(try clear hK' K');(try dsimp only [aop]);try simp only [go_sem,↓reduceIte,Nat.reduceEqDiff,Nat.reduceLT,Nat.reduceLeDiff,Nat.reduceAdd,Nat.reduceSub,Nat.reduceMul,Nat.reduceBEq,Nat.reduceBNe,Nat.reducePow,Int.reduceToNat,Int.reduceLE,Int.reduceLT,Int.reduceMul,Int.reduceEq,Int.reducePow,Int.reduceAdd,Int.reduceSub,Int.reduceNeg,reduceCtorEq,aV,Tryz.results78,hlt',hfl,hg0,hx0,hk0',hkm,hg1,hvl',hkw]) | (with_reducible first | refine af ?_ | refine aL ?_ | refine ai ?_ | refine aj ?_ | refine ay fun K hK=>?_ | refine ap ?_ | refine aS ?_ | refine bb ?_ | refine al ?_ | refine av ?_ | refine au ?_ | refine ch ?_ | refine eN fun K hK=>?_) | (with_reducible refine hK _ ?_;clear hK K) | (with_reducible refine hK _ _ ?_ ?_;(· kernel_rfl);clear hK K) | ((with_reducible first | refine aG ?_ ?_ | refine ag ?_ ?_);(· decide)) | (with_reducible refine cg tk0 aV ?_ ?_;(· kernel_rfl)) | (with_reducible refine bp ?_ ?_;(· (try and_intros) <;> first | omega | assumption | (simp only [List.length_append,List.length_map,List.length_cons,List.length_nil] <;> omega))) | (with_reducible refine ah (hv1) ?_) | (with_reducible refine ah (hx1) ?_))
  ·have hk0' : ((0 : Int) < (k : Int)) = False:=eq_false (by omega)
   have hL1:=hp0 (by omega)
   have hv0 : 0≤v:=by unfold kT at hvb;simp at hvb;exact hvb.1
   clear hno hpv hp0 hxb
   repeat' (first | (with_reducible refine hY _ ?_;clear hY Y) | ((with_reducible first | refine an rfl (ar fun K' hK'=>aa ?_) | refine hK' _ (ab fun Y hY=>aa ?_) | refine ab fun Y hY=>aa ?_ | refine ae tk0 aV (ab fun Y hY=>aa ?_) | refine aa ?_ | refine cV rfl (cT fun K' hK'=>aa ?_) | refine hK' _ _ (ab fun Y hY=>aa ?_) | refine eU rfl (ab fun Y hY=>aa ?_) | refine cT fun K' hK'=>aa ?_);(try clear hK' K');(try dsimp only [aop]);try simp only [go_sem,↓reduceIte,Nat.reduceEqDiff,Nat.reduceLT,Nat.reduceLeDiff,Nat.reduceAdd,Nat.reduceSub,Nat.reduceMul,Nat.reduceBEq,Nat.reduceBNe,Nat.reducePow,Int.reduceToNat,Int.reduceLE,Int.reduceLT,Int.reduceMul,Int.reduceEq,Int.reducePow,Int.reduceAdd,Int.reduceSub,Int.reduceNeg,reduceCtorEq,aV,Tryz.results78,hlt',hfl,hg0,hx0,hk0',hkw]) | (with_reducible first | refine af ?_ | refine bh rfl ?_ | refine aL ?_ | refine cS ?_ ?_ | refine ai ?_ | refine aj ?_ | refine ay fun K hK=>?_ | refine ap ?_ | refine aq ?_ | refine aU ?_ | refine al ?_ | refine av ?_ | refine ch ?_ | refine eN fun K hK=>?_) | (with_reducible refine hK _ ?_;clear hK K) | (with_reducible refine hK _ _ ?_ ?_;(· kernel_rfl);clear hK K) | ((with_reducible first | refine aG ?_ ?_ | refine ag ?_ ?_);(· decide)) | (with_reducible refine cg tk0 aV ?_ ?_;(· kernel_rfl)) | (with_reducible refine bp ?_ ?_;(· (try and_intros) <;> first | omega | assumption | (simp only [List.length_append,List.length_map,List.length_cons,List.length_nil] <;> omega))) | (with_reducible refine ah (hv1) ?_) | (with_reducible refine ah (hx1) ?_))
   refine bi [1,17,18,19] (by simp only [go_sem,↓reduceIte,Nat.reduceEqDiff,Nat.reduceLT,Nat.reduceLeDiff,Nat.reduceAdd,Nat.reduceSub,Nat.reduceMul,Nat.reduceBEq,Nat.reduceBNe,Nat.reducePow,Int.reduceToNat,Int.reduceLE,Int.reduceLT,Int.reduceMul,Int.reduceEq,Int.reducePow,Int.reduceAdd,Int.reduceSub,Int.reduceNeg,reduceCtorEq];exact rfl) ?_
   exact ih' (by rw [hL1];simp [hx0];omega)
 ·have hlt' : ((k : Int) < (t.length : Int)) = False:=eq_false (by omega)
  rw [List.take_of_length_le (by omega)] at hall
  rw [hall,if_pos rfl,cR]
  clear ih
  repeat' (first | (with_reducible refine hY _ ?_;clear hY Y) | ((with_reducible first | refine an rfl (ar fun K' hK'=>aa ?_) | refine hK' _ (ab fun Y hY=>aa ?_) | refine ab fun Y hY=>aa ?_ | refine ae tk0 aV (ab fun Y hY=>aa ?_) | refine aa ?_ | refine ao ?_);(try clear hK' K');(try dsimp only [aop]);try simp only [go_sem,↓reduceIte,Nat.reduceEqDiff,Nat.reduceLT,Nat.reduceLeDiff,Nat.reduceAdd,Nat.reduceSub,Nat.reduceMul,Nat.reduceBEq,Nat.reduceBNe,Nat.reducePow,Int.reduceToNat,Int.reduceLE,Int.reduceLT,Int.reduceMul,Int.reduceEq,Int.reducePow,Int.reduceAdd,Int.reduceSub,Int.reduceNeg,reduceCtorEq,aV,Tryz.results78,hlt']) | (with_reducible first | refine af ?_ | refine ai ?_ | refine aj ?_ | refine ay fun K hK=>?_ | refine aq ?_ | refine bC ?_ | refine bg ?_ | refine au ?_ | refine bf ?_) | (with_reducible refine hK _ ?_;clear hK K) | ((with_reducible refine ag ?_ ?_);(· decide)))
end Go.Proofs.YtmpdocplcgbpkaaGreatDoor
namespace Go.Proofs.YtmpdocplcgbpkaaGreatDoor
set_option linter.unusedSimpArgs false
set_option linter.unusedVariables false
open Go.RowKit
end Go.Proofs.YtmpdocplcgbpkaaGreatDoor
namespace Go.Proofs.YtmpdocplcgbpkaaGreatDoor
set_option linter.unusedSimpArgs false
set_option linter.unusedVariables false
def dI (u : Int→Int) : List Tm→Int
 | []=>0
 | m :: r=>m.2 * u m.1 + dI u r
def dK (u : Int→Int) (l : Ln) : Int:=l.c + dI u l.t
theorem nj (u : Int→Int) : ∀ a b : List Tm,dI u (a ++ b) = dI u a + dI u b
 | [],b=>by simp [dI]
 | m :: r,b=>by rw [List.cons_append,dI,dI,nj u r b];omega
theorem iZ (u : Int→Int) (p : Int) : ∀ t : List Tm,dI u (cz p t) = p * dI u t
 | []=>by simp [cz,dI]
 | m :: r=>by
  have:=iZ u p r
  unfold cz at *
  rw [List.map_cons,dI,dI,this,Int.mul_add,Int.mul_assoc]
def jv (ts : List Tm) (u : Int→Int) : List Int→Int
 | []=>0
 | v :: r=>d9 ts v * u v + jv ts u r
theorem ri (u : Int→Int) : ∀ vs : List Int,jv [] u vs = 0
 | []=>rfl
 | v :: r=>by rw [jv,ri u r];simp [d9]
theorem rj (m : Tm) (ts : List Tm) (u : Int→Int) : ∀ vs : List Int,m.1 ∉ vs→jv (m :: ts) u vs = jv ts u vs
 | [],_=>rfl
 | v :: r,h=>by
  rw [List.mem_cons] at h
  rw [jv,jv,rj m ts u r (fun e=>h (.inr e)),d9,if_neg (fun e=>h (.inl e))]
  simp
theorem oo (m : Tm) (ts : List Tm) (u : Int→Int) : ∀ vs : List Int,vs.Nodup→m.1 ∈ vs→jv (m :: ts) u vs = m.2 * u m.1 + jv ts u vs
 | [],_,h=>absurd h List.not_mem_nil
 | v :: r,hn,h=>by
  obtain ⟨hv,hn⟩:=List.nodup_cons.1 hn
  by_cases e : m.1 = v
  ·subst e
   rw [jv,jv,rj m ts u r hv,d9,if_pos rfl,Int.add_mul];omega
  ·have hr : m.1 ∈ r:=(List.mem_cons.1 h).resolve_left e
   rw [jv,jv,oo m ts u r hn hr,d9,if_neg e]
   simp;omega
theorem rA (u : Int→Int) (vs : List Int) (hn : vs.Nodup) : ∀ ts : List Tm,(∀ m ∈ ts,m.1 ∈ vs)→dI u ts = jv ts u vs
 | [],_=>(ri u vs).symm
 | m :: r,h=>by rw [dI,rA u vs hn r (fun x hx=>h x (List.mem_cons_of_mem _ hx)),oo m r u vs hn (h m (by simp))]
theorem rh (ts : List Tm) (u : Int→Int) (div : Int) : ∀ vs : List Int,dZ ts div vs = false→jv ts u vs = div * dI u (fa ts div vs)
 | [],_=>by simp [jv,fa,dI]
 | v :: r,h=>by
  unfold dZ at h
  rw [List.any_cons,Bool.or_eq_false_iff] at h
  have ih:=rh ts u div r h.2
  have hd : (d9 ts v).tmod div = 0:=by simpa using h.1
  have he : div * (d9 ts v).tdiv div = d9 ts v:=by
   have:=Int.mul_tdiv_add_tmod (d9 ts v) div
   rw [hd] at this;omega
  rw [jv,fa]
  split
  ·rename_i h0;rw [h0,ih];simp
  ·rw [dI,ih,Int.mul_add,← Int.mul_assoc,he]
theorem xp {a g : Int} (hg : 0 < g) : g * upZ a g < a + g:=by
 have h1:=Int.mul_tdiv_add_tmod a g
 unfold upZ
 split
 ·rename_i h
  rw [Int.mul_add];omega
 ·rename_i h
  have h2:=Int.tmod_lt_of_pos a hg
  have h3 : -g < a.tmod g:=by
   have:=Int.lt_tmod_of_pos a hg
   omega
  rw [Int.mul_add];omega
theorem oW {c : Int} {ts : List Tm} {div : Int} {l : Ln} (h : da c ts div = (0,l)) {u : Int→Int} (hv : c + dI u ts≤0) : dK u l≤0:=by
 unfold da at h
 split at h
 ·cases h
 rename_i hd
 split at h
 ·cases h
 split at h
 ·cases h
 rename_i hr
 split at h
 ·cases h
 split at h
 ·cases h
 cases h
 have hr' : dZ ts div (fw ts) = false:=by simpa using hr
 have hs:=rA u (fw ts) ((i3 ts).imp fun h=>by omega) ts fun m hm=>(lq ts _).2 (List.mem_map.2 ⟨m,hm,rfl⟩)
 rw [hs,rh ts u div _ hr'] at hv
 have hg : 0 < div:=by omega
 have hu:=xp (a:=c) hg
 unfold dK
 show upZ c div + dI u (fa ts div (fw ts))≤0
 generalize dI u (fa ts div (fw ts)) = V at *
 generalize upZ c div = q at *
 by_cases hle : q + V≤0
 ·exact hle
 ·have h1 : div * 1≤div * (q + V):=Int.mul_le_mul_of_nonneg_left (by omega) (by omega)
  rw [Int.mul_add] at h1
  omega
theorem mT {ls : List Ln} {u : Int→Int} (hls : ∀ l ∈ ls,dK u l≤0) : ∀ (p : List Tm) (c : Int) (ts : List Tm) (c' : Int) (ts' : List Tm),c + dI u ts≤0→d5 ls p c ts = (0,c',ts')→c' + dI u ts'≤0
 | [],c,ts,c',ts',h,e=>by cases e;exact h
 | p :: r,c,ts,c',ts',h,e=>by
  unfold d5 at e
  split at e
  ·cases e
  rename_i h1
  split at e
  ·cases e
  rename_i h2
  refine mT hls r _ _ c' ts' ?_ e
  have hlt : p.1.toNat < ls.length:=by omega
  have hl:=hls ls[p.1.toNat] (List.getElem_mem hlt)
  rw [List.getD_eq_getElem?_getD,List.getElem?_eq_getElem hlt]
  simp only [Option.getD_some]
  generalize ls[p.1.toNat] = l at *
  unfold dK at hl
  rw [nj,iZ]
  have : p.2 * (l.c + dI u l.t)≤p.2 * 0:=Int.mul_le_mul_of_nonneg_left hl (by omega)
  rw [Int.mul_add] at this
  omega
theorem vi {ls : List Ln} {u : Int→Int} (hls : ∀ l ∈ ls,dK u l≤0) {s : Stp} (h : (fb ls s).1 = 0) : dK u (fb ls s).2≤0:=by
 unfold fb at h ⊢
 split at h
 ·cases h
 rename_i hl
 rw [if_neg hl]
 dsimp only at h ⊢
 split at h
 ·rename_i h0
  rw [if_pos h0]
  have e : d5 ls s.parts 0 [] = (0,(d5 ls s.parts 0 []).2.1,(d5 ls s.parts 0 []).2.2):=by rw [← h0]
  have hv:=mT hls s.parts 0 [] _ _ (by simp [dI]) e
  generalize d5 ls s.parts 0 [] = q at *
  have e2 : da q.2.1 q.2.2 s.div = (0,(da q.2.1 q.2.2 s.div).2):=by rw [← h]
  exact oW e2 hv
 ·rename_i h0;exact absurd h h0
theorem m5 {u : Int→Int} : ∀ (ss : List Stp) (i : Nat) (ls : List Ln),(∀ l ∈ ls,dK u l≤0)→(dw ss i ls).1 = 0→∀ l ∈ (dw ss i ls).2.2,dK u l≤0
 | [],i,ls,h,_=>h
 | s :: r,i,ls,h,e=>by
  unfold dw at e ⊢
  by_cases h0 : (fb ls s).1 = 0
  ·rw [if_pos h0] at e ⊢
   refine m5 r (i + 1) _ (fun l hl=>?_) e
   rcases List.mem_append.1 hl with hl | hl
   ·exact h l hl
   ·rw [List.mem_singleton] at hl
    rw [hl];exact vi h h0
  ·rw [if_neg h0] at e;exact absurd e h0
theorem sw {u : Int→Int} {ps : List Ln} {ss : List Stp} (h : ∀ l ∈ ps,dK u l≤0) (e : (dj ps ss).1 = 0) : ∀ l ∈ (dj ps ss).2.2,dK u l≤0:=by
 unfold dj at e ⊢
 split at e
 ·cases e
 rename_i hl
 rw [if_neg hl]
 split at e
 ·cases e
 ·rename_i hb
  exact m5 ss 0 ps h e
theorem pG {u : Int→Int} {ps : List Ln} {ss : List Stp} (h : ∀ l ∈ ps,dK u l≤0) (e : (dj ps ss).1 = 0) : gf ps ss = (8,-1):=by
 have hv:=sw h e
 unfold gf
 dsimp only
 rw [if_pos e,if_neg]
 intro ha
 obtain ⟨l,hl,hc⟩:=List.any_eq_true.1 ha
 have:=hv l hl
 simp only [Bool.and_eq_true,decide_eq_true_eq,List.isEmpty_iff] at hc
 unfold dK at this
 rw [hc.1] at this
 simp [dI] at this
 omega
end Go.Proofs.YtmpdocplcgbpkaaGreatDoor
namespace Go.Proofs.YtmpdocplcgbpkaaGreatDoor
set_option linter.unusedSimpArgs false
set_option linter.unusedVariables false
open Go.RowKit
def ofN (vs : List Int) (v : Int) : Int:=if v < (vs.length : Int) then vs.getD v.toNat 0 else 0
def sa (u : Int→Int) (t : List Tm) : Bool:=t.any fun m=>decide (u m.1 < -16777216) || decide (16777216 < u m.1)
def eW (l : Ln) (vs : List Int) : Int × Int:=if !cY l then (0,5) else if sa (ofN vs) l.t then (0,1) else (dK (ofN vs) l,0)
theorem mw {l : List Int} {i : Nat} (h : i < l.length) : (l.map inA).getD i .u = inA (l.getD i 0):=by rw [wH h,List.getD_eq_getElem?_getD,List.getElem?_eq_getElem h];rfl
theorem vr (u : Int→Int) {t : List Tm} {k : Nat} (h : k < t.length) : dI u (t.take (k + 1)) = dI u (t.take k) + u t[k].1 * t[k].2:=by
 rw [List.take_succ_eq_append_getElem h,nj]
 simp only [dI,Int.add_zero]
 rw [Int.mul_comm]
theorem tE {x y : Int} (h1 : -16777216≤x) (h2 : x≤16777216) (h3 : -1073741824≤y) (h4 : y≤1073741824) : -18014398509481984≤x * y∧x * y≤18014398509481984:=by
 have h:=Int.natAbs_mul x y
 have h5 : x.natAbs * y.natAbs≤16777216 * 1073741824:=Nat.mul_le_mul (by omega) (by omega)
 omega
theorem tU (u : Int→Int) : ∀ t : List Tm,(∀ m ∈ t,-16777216≤u m.1∧u m.1≤16777216∧-1073741824≤m.2∧m.2≤1073741824)→-((t.length : Int) * 18014398509481984)≤dI u t∧dI u t≤(t.length : Int) * 18014398509481984
 | [],_=>by simp [dI]
 | m :: r,h=>by
  obtain ⟨a1,a2,a3,a4⟩:=h m (by simp)
  obtain ⟨b1,b2⟩:=tE a1 a2 a3 a4
  have ih:=tU u r fun x hx=>h x (by simp [hx])
  rw [Int.mul_comm] at b1 b2
  rw [dI,List.length_cons]
  omega
theorem Aq {u : Int→Int} {t : List Tm} {k : Nat} (h : k < t.length) (hf : (decide (u t[k].1 < -16777216) || decide (16777216 < u t[k].1)) = true) : sa u t = true:=List.any_eq_true.2 ⟨_,List.getElem_mem h,hf⟩
end Go.Proofs.YtmpdocplcgbpkaaGreatDoor
namespace Go.Proofs.YtmpdocplcgbpkaaGreatDoor
set_option linter.unusedSimpArgs false
set_option linter.unusedVariables false
def ml (n : Nat) (z : Int) : Bool:=decide (z = 0) || decide ((n : Int) < z) || decide (z < -(n : Int))
def nI (ls : List Ln) (z : Int) : Ln:=ls.getD (if z < 0 then (-z - 1).toNat else (z - 1).toNat) ⟨0,[]⟩
def jr (ls : List Ln) (z : Int) : Nat × Ln :=
 if z < 0 then (0,nI ls z) else if cX (1 - (nI ls z).c) then (0,⟨1 - (nI ls z).c,cz (-1) (nI ls z).t⟩) else (3,⟨0,[]⟩)
def iv (ls : List Ln) : List Int→List Ln→Nat × List Ln
 | [],out=>(0,out)
 | z :: r,out=>if (jr ls z).1 = 0 then iv ls r (out ++ [(jr ls z).2]) else ((jr ls z).1,[])
def gG (ls : List Ln) (zs : List Int) : Nat × List Ln :=
 if ls.any (fun l=>!cY l) then (5,[]) else if zs.any (ml ls.length) then (5,[]) else iv ls zs []
theorem oO {n : Nat} {z : Int} (h : ml n z = false) : z ≠ 0∧z≤n∧-(n : Int)≤z:=by
 unfold ml at h
 simp only [Bool.or_eq_false_iff,decide_eq_false_iff_not] at h
 omega
theorem oN {ls : List Ln} {z : Int} (h : ml ls.length z = false) : ∃ i,∃ hi : i < ls.length,nI ls z = ls[i]∧(i : Int) = (if z < 0 then -z - 1 else z - 1):=by
 obtain ⟨h1,h2,h3⟩:=oO h
 unfold nI
 by_cases hz : z < 0
 ·rw [if_pos hz,if_pos hz]
  refine ⟨(-z - 1).toNat,by omega,?_,by omega⟩
  rw [List.getD_eq_getElem?_getD,List.getElem?_eq_getElem (by omega)];rfl
 ·rw [if_neg hz,if_neg hz]
  refine ⟨(z - 1).toNat,by omega,?_,by omega⟩
  rw [List.getD_eq_getElem?_getD,List.getElem?_eq_getElem (by omega)];rfl
theorem od (ls : List Ln) : ∀ (zs : List Int) (out : List Ln),(iv ls zs out).1 = 0→(iv ls zs out).2 = out ++ zs.map (fun z=>(jr ls z).2)
 | [],out,_=>by simp [iv]
 | z :: r,out,h=>by
  unfold iv at h ⊢
  split at h
  ·rename_i h1
   rw [if_pos h1,od ls r _ h]
   simp
  ·rename_i h1
   exact absurd h h1
theorem qI (ls : List Ln) : ∀ (zs : List Int) (out : List Ln),(iv ls zs out).1 ≠ 0→(iv ls zs out).2 = []
 | [],out,h=>absurd rfl h
 | z :: r,out,h=>by
  unfold iv at h ⊢
  split at h
  ·rename_i h1
   rw [if_pos h1];exact qI ls r _ h
  ·rename_i h1
   rw [if_neg h1]
theorem qJ {ls : List Ln} {zs : List Int} (h : (gG ls zs).1 = 0) : (∀ l ∈ ls,cY l = true)∧(∀ z ∈ zs,ml ls.length z = false)∧(gG ls zs).2 = zs.map (fun z=>(jr ls z).2):=by
 unfold gG at h ⊢
 split at h
 ·cases h
 rename_i h1
 split at h
 ·cases h
 rename_i h2
 rw [if_neg h1,if_neg h2,od ls zs [] h,List.nil_append]
 simp only [List.any_eq_true,not_exists,not_and,Bool.not_eq_true,Bool.not_eq_false'] at h1 h2
 exact ⟨h1,h2,rfl⟩
theorem m8 : ∀ (last : Int) (t : List Tm),cU last t = true→cU last (cz (-1) t) = true
 | _,[],h=>h
 | last,m :: r,h=>by
  have e : cz (-1) (m :: r) = (m.1,-1 * m.2) :: cz (-1) r:=rfl
  rw [e]
  unfold cU at h ⊢
  rw [Bool.and_eq_true] at h ⊢
  refine ⟨?_,m8 _ r h.2⟩
  have h1:=h.1
  unfold jY kT cX at h1 ⊢
  simp at h1 ⊢
  omega
end Go.Proofs.YtmpdocplcgbpkaaGreatDoor
