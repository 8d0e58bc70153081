/- Cut in K: all lines. K: rows handed back with their token, or without; rows handed in whose room is none. No program is in sight. Cut in K: a step, the document's way. Cut in K: all lines, the document's way. Cut in K: refuted, or open. A certificate checked, plain: what is normalized is sound; the premises of a lemma are few. -/
import Derived.Test.YtmpdocplcgbpkaaGreatDoorZ24
import Derived.Test.YtmpdocplcgbpkaaGreatDoorZ8
import Derived.Test.YtmpdocplcgbpkaaGreatDoorZ7
import Derived.Test.YtmpdocplcgbpkaaGreatDoorZ15
import Derived.Test.YtmpdocplcgbpkaaGreatDoorZ10
import Derived.Test.YtmpdocplcgbpkaaGreatDoorZ23
import Derived.Test.YtmpdocplcgbpkaaGreatDoorZ22
namespace Go.Proofs.YtmpdocplcgbpkaaGreatDoor
set_option linter.unusedSimpArgs false
set_option linter.unusedVariables false
open Go.RowKit
theorem lD : ∀ {ps : List Ln} {k i : Nat} (h : k < ps.length),(∀ j (hj : j < ps.length),j < k→cY ps[j] = true)→cY ps[k] = false→fy ps i = some (i + k)
 | p :: r,0,i,h,_,hb=>by
  unfold fy
  have : cY p = false:=hb
  rw [this];rfl
 | p :: r,k + 1,i,h,ha,hb=>by
  unfold fy
  rw [show cY p = true from ha 0 (by simp) (by omega),if_pos rfl,lD (ps:=r) (k:=k) (i:=i + 1) (by simpa using h) (fun j hj hjk=>ha (j + 1) (by simpa using hj) (by omega)) hb]
  congr 1;omega
theorem kw : ∀ {ps : List Ln} {i : Nat},(∀ l ∈ ps,cY l = true)→fy ps i = none
 | [],i,_=>rfl
 | p :: r,i,h=>by
  unfold fy
  rw [h p (by simp),if_pos rfl]
  exact kw fun l hl=>h l (by simp [hl])
def sx (q : Nat × Int × List Ln) : AV:=.tup [gB q.2.2,eA q.1 q.2.1]
theorem tC (a b : List Ln) : (a ++ b).flatMap lnA = a.flatMap lnA ++ b.flatMap lnA:=List.flatMap_append
theorem xi {ls : List Ln} {s : Stp} {r : List Stp} {i : Nat} {l : Ln} (h : fb ls s = (0,l)) : dw (s :: r) i ls = dw r (i + 1) (ls ++ [l]):=by
 rw [dw,h];rfl
theorem xj {ls : List Ln} {s : Stp} {r : List Stp} {i e : Nat} {l : Ln} (h : fb ls s = (e,l)) (he : e ≠ 0) : dw (s :: r) i ls = (e,(i : Int),[]):=by
 rw [dw,h];exact if_neg he
theorem vY (e i : Nat) (he : e ≠ 0) : eA e (i : Int) = .ifc 61 (.rf [inA (i : Int),b9 e] 0):=by
 unfold eA;rw [if_neg (by omega)];rfl
theorem tf (z : Int) : eA 0 z = .c .nilIface:=by unfold eA;rw [if_pos (.inr rfl)];rfl
theorem q8 {ss : List Stp} {k : Nat} (h : k < ss.length) (i : Nat) (ls : List Ln) : dw (ss.drop k) i ls = dw (ss[k] :: ss.drop (k + 1)) i ls:=by rw [List.drop_eq_getElem_cons h]
def jF (q : Nat × Int × List Ln) : AV:=.tup [.sl (q.2.2.flatMap lnA) q.2.2.length (if q.1 = 0 then .none else .full),eA q.1 q.2.1]
theorem jG {e : Nat} (he : e ≠ 0) (z : Int) : jF (e,z,[]) = .tup [.sl [] 0 .full,eA e z]:=by unfold jF;rw [if_neg he];rfl
theorem uI (z : Int) (ls : List Ln) : jF (0,z,ls) = .tup [gB ls,.c .nilIface]:=by unfold jF;rw [tf];rfl
structure xy (ps : List Ln) : Prop where
 len : Lg ps
 each : ∀ l ∈ ps,l.t.length≤8796093022207
structure pW (ss : List Stp) : Prop where
 len : Lg ss
 each : ∀ s ∈ ss,Lg s.parts
def bA : Nat→List Nat
 | 0=>[0,1]
 | 1=>[0,1]
 | 2=>[]
 | 3=>[0,1]
 | 4=>[0,1,6]
 | 5=>[1,6,23,24,25]
 | 6=>[1,6,23,24,25]
 | 7=>[1,6,7,8,23,24,25]
 | 8=>[1,6,7,8,9,23,24,25]
 | 9=>[7,9]
 | 10=>[1,6,8,23,24,25]
 | 11=>[1,6,23,24,25]
 | 12=>[1,6]
 | 13=>[6,49,50,51]
 | 14=>[6,49,50,51]
 | 15=>[6,10,11,49,50,51]
 | 16=>[6,10,12,13,49,50,51]
 | 17=>[10,13]
 | 18=>[6,12,49,50,51]
 | 19=>[6,49,50,51]
 | 20=>[6]
 | _=>[]
set_option maxRecDepth 100000 in
set_option maxHeartbeats 16000000 in
theorem wD (ps : List Ln) (ss : List Stp) (hps : xy ps) (hss : pW ss) : AFn Tryz.prog 81 [gB ps,kN ss] [] (jF (dj ps ss)) []:=by
 have hpl:=hps.len
 have hsl:=hss.len
 unfold Lg at hpl hsl
 by_cases h1 : 4096 < ps.length
 ·rw [show dj ps ss = (2,-1,[]) from if_pos (.inl h1),jG (by decide),show eA 2 (-1) = b9 2 from rfl,gZ]
  have h1' : ((4096 : Int) < (ps.length : Int)) = True:=eq_true (by omega)
  refine aD [] Tryz.func81 rfl Tryz.ntmps81 (Nat.le_of_ble_eq_true rfl) (Nat.le_of_ble_eq_true rfl) fun w0 G0 B0 Pr hB0=>?_
  simp only [aO,aA,List.cons_append,List.nil_append]
  repeat' (first | (with_reducible refine hY _ ?_;clear hY Y) | ((with_reducible first | refine an rfl (ar fun K' hK'=>aa ?_) | refine hK' _ (ab fun Y hY=>aa ?_) | refine bl rfl (ab fun Y hY=>aa ?_) | refine ab fun Y hY=>aa ?_ | refine ae tk0 bA (ab fun Y hY=>aa ?_) | refine aa ?_ | refine ao ?_);(try clear hK' K');(try dsimp only [aop]);try simp only [go_sem,↓reduceIte,Nat.reduceEqDiff,Nat.reduceLT,Nat.reduceLeDiff,Nat.reduceAdd,Nat.reduceSub,Nat.reduceMul,Nat.reduceBEq,Nat.reduceBNe,Nat.reducePow,Int.reduceToNat,Int.reduceLE,Int.reduceLT,Int.reduceMul,Int.reduceEq,Int.reducePow,Int.reduceAdd,Int.reduceSub,Int.reduceNeg,reduceCtorEq,bA,Tryz.results81,h1']) | (with_reducible first | refine af ?_ | refine bh rfl ?_ | refine cS ?_ ?_ | refine ai ?_ | refine aj ?_ | refine ay fun K hK=>?_ | refine ap ?_ | refine aS ?_ | refine au ?_) | (with_reducible refine hK _ ?_;clear hK K) | ((with_reducible first | refine aG ?_ ?_ | refine ag ?_ ?_);(· decide)))
 have h1' : ((4096 : Int) < (ps.length : Int)) = False:=eq_false (by omega)
 by_cases h2 : 4096 < ss.length
 ·rw [show dj ps ss = (2,-1,[]) from if_pos (.inr h2),jG (by decide),show eA 2 (-1) = b9 2 from rfl,gZ]
  have h2' : ((4096 : Int) < (ss.length : Int)) = True:=eq_true (by omega)
  refine aD [] Tryz.func81 rfl Tryz.ntmps81 (Nat.le_of_ble_eq_true rfl) (Nat.le_of_ble_eq_true rfl) fun w0 G0 B0 Pr hB0=>?_
  simp only [aO,aA,List.cons_append,List.nil_append]
  repeat' (first | (with_reducible refine hY _ ?_;clear hY Y) | ((with_reducible first | refine an rfl (ar fun K' hK'=>aa ?_) | refine hK' _ (ab fun Y hY=>aa ?_) | refine bl rfl (ab fun Y hY=>aa ?_) | refine ab fun Y hY=>aa ?_ | refine ar fun K' hK'=>aa ?_ | refine ae tk0 bA (ab fun Y hY=>aa ?_) | refine aa ?_ | refine ao ?_);(try clear hK' K');(try dsimp only [aop]);try simp only [go_sem,↓reduceIte,Nat.reduceEqDiff,Nat.reduceLT,Nat.reduceLeDiff,Nat.reduceAdd,Nat.reduceSub,Nat.reduceMul,Nat.reduceBEq,Nat.reduceBNe,Nat.reducePow,Int.reduceToNat,Int.reduceLE,Int.reduceLT,Int.reduceMul,Int.reduceEq,Int.reducePow,Int.reduceAdd,Int.reduceSub,Int.reduceNeg,reduceCtorEq,bA,Tryz.results81,h1',h2']) | (with_reducible first | refine af ?_ | refine aL ?_ | refine ai ?_ | refine aj ?_ | refine ay fun K hK=>?_ | refine ap ?_ | refine aS ?_ | refine au ?_) | (with_reducible refine hK _ ?_;clear hK K) | ((with_reducible first | refine aG ?_ ?_ | refine ag ?_ ?_);(· decide)))
 have h2' : ((4096 : Int) < (ss.length : Int)) = False:=eq_false (by omega)
 have hL5 : ∀ i,fy ps 0 = some i→dj ps ss = (5,(i : Int),[]):=fun i h=>by unfold dj;rw [if_neg (by omega),h]
 have hL0 : fy ps 0 = none→dj ps ss = dw ss 0 ps:=fun h=>by unfold dj;rw [if_neg (by omega),h]
 refine aD [] Tryz.func81 rfl Tryz.ntmps81 (Nat.le_of_ble_eq_true rfl) (Nat.le_of_ble_eq_true rfl) fun w0 G0 B0 Pr hB0=>?_
 simp only [aO,aA,List.cons_append,List.nil_append]
 repeat' (first | (with_reducible refine hY _ ?_;clear hY Y) | ((with_reducible first | refine an rfl (ar fun K' hK'=>aa ?_) | refine hK' _ (ab fun Y hY=>aa ?_) | refine bl rfl (ab fun Y hY=>aa ?_) | refine ab fun Y hY=>aa ?_ | refine ar fun K' hK'=>aa ?_ | refine ae tk0 bA (ab fun Y hY=>aa ?_));(try clear hK' K');(try dsimp only [aop]);try simp only [go_sem,↓reduceIte,Nat.reduceEqDiff,Nat.reduceLT,Nat.reduceLeDiff,Nat.reduceAdd,Nat.reduceSub,Nat.reduceMul,Nat.reduceBEq,Nat.reduceBNe,Nat.reducePow,Int.reduceToNat,Int.reduceLE,Int.reduceLT,Int.reduceMul,Int.reduceEq,Int.reducePow,Int.reduceAdd,Int.reduceSub,Int.reduceNeg,reduceCtorEq,bA,Tryz.results81,h1',h2']) | (with_reducible first | refine af ?_ | refine aL ?_ | refine ai ?_ | refine aj ?_ | refine ay fun K hK=>?_ | refine aq ?_ | refine al ?_ | refine av ?_ | refine bG ?_) | (with_reducible refine hK _ ?_;clear hK K) | ((with_reducible first | refine aG ?_ ?_ | refine ag ?_ ?_);(· decide)))
 refine eu (gp (b:=10047) (t:=6) 24 (by decide) (by decide) rfl rfl) ?_
 refine bK (α:=Nat) (fun k=>[(1,kN ss),(6,.sl ((ps.take k).flatMap lnA) k (.tok 10047)),(23,gB ps),(24,inA (ps.length : Int)),(25,inA (k : Int)),(10047,.bt k 24)])
  (fun k=>k≤ps.length∧∀ j (hj : j < ps.length),j < k→cY ps[j] = true) (fun k=>ps.length - k) 0 [1,6,23,24,25] ?_ ⟨Nat.zero_le _,fun j _ hj=>absurd hj (Nat.not_lt_zero _)⟩ ?_
 ·simp only [go_sem,↓reduceIte,Nat.reduceEqDiff,Nat.reduceLT,Nat.reduceLeDiff,Nat.reduceAdd,Nat.reduceSub,Nat.reduceMul,Nat.reduceBEq,Nat.reduceBNe,Nat.reducePow,Int.reduceToNat,Int.reduceLE,Int.reduceLT,Int.reduceMul,Int.reduceEq,Int.reducePow,Int.reduceAdd,Int.reduceSub,Int.reduceNeg,reduceCtorEq] <;> rfl
 rintro k ⟨hk,hall⟩ ih
 by_cases hlt : k < ps.length
 ·have hlt' : ((k : Int) < (ps.length : Int)) = True:=eq_true (by omega)
  have hkw:=cf (n:=k) (by omega)
  have hg0:=jo hlt
  have hfl:=ei ps
  have hck:=d3 ps[k]
  have hcl:=kq ps[k].t .none (.inl rfl) (hps.each _ (List.getElem_mem hlt))
  have hcs : ((ps.take k).flatMap lnA).length = k * 2:=by rw [ei,List.length_take];omega
  cases hb : cY ps[k] with
  | false =>
   rw [hL5 k (by have:=lD (i:=0) hlt hall hb;rwa [Nat.zero_add] at this),jG (by decide),vY 5 k (by decide),di]
   unfold ip at hck
   rw [hb,if_neg (by decide),di] at hck
   clear ih hall hL5 hL0
   generalize ps[k] = l at *
   generalize (ps.take k).flatMap lnA = PC at *
   repeat' (first | (with_reducible refine hY _ ?_;clear hY Y) | ((with_reducible first | refine an rfl (ar fun K' hK'=>aa ?_) | refine hK' _ (ab fun Y hY=>aa ?_) | refine ab fun Y hY=>aa ?_ | refine ae tk0 bA (ab fun Y hY=>aa ?_) | refine aa ?_ | refine ao ?_);(try clear hK' K');(try dsimp only [aop]);try simp only [go_sem,↓reduceIte,Nat.reduceEqDiff,Nat.reduceLT,Nat.reduceLeDiff,Nat.reduceAdd,Nat.reduceSub,Nat.reduceMul,Nat.reduceBEq,Nat.reduceBNe,Nat.reducePow,Int.reduceToNat,Int.reduceLE,Int.reduceLT,Int.reduceMul,Int.reduceEq,Int.reducePow,Int.reduceAdd,Int.reduceSub,Int.reduceNeg,reduceCtorEq,bA,Tryz.results81,hlt',hfl,hg0,hkw,hcs]) | (with_reducible first | refine af ?_ | refine ai ?_ | refine aj ?_ | refine ay fun K hK=>?_ | refine ap ?_ | refine aS ?_ | refine bb ?_ | refine al ?_ | refine av ?_ | refine au ?_) | (with_reducible refine hK _ ?_;clear hK K) | ((with_reducible refine ag ?_ ?_);(· decide)) | (with_reducible refine bp ?_ ?_;(· (try and_intros) <;> first | omega | assumption | (simp only [List.length_append,List.length_map,List.length_cons,List.length_nil] <;> omega))) | (with_reducible refine ah (hck) ?_))
  | true =>
   have ih':=ih (k + 1) ⟨by omega,fun j hj hjk=>by
    by_cases e : j < k
    ·exact hall j hj e
    ·obtain rfl : j = k:=by omega
     exact hb⟩ (by omega)
   rw [List.take_succ_eq_append_getElem hlt,tC] at ih'
   unfold ip at hck
   rw [hb,if_pos rfl,cR] at hck
   clear ih hall hL5 hL0
   generalize ps[k] = l at *
   generalize (ps.take k).flatMap lnA = PC at *
   repeat' (first | (with_reducible refine hY _ ?_;clear hY Y) | ((with_reducible first | refine an rfl (ar fun K' hK'=>aa ?_) | refine hK' _ (ab fun Y hY=>aa ?_) | refine ab fun Y hY=>aa ?_ | refine ae tk0 bA (ab fun Y hY=>aa ?_) | refine aa ?_ | refine cV rfl (cT fun K' hK'=>aa ?_) | refine hK' _ _ (ab fun Y hY=>aa ?_));(try clear hK' K');(try dsimp only [aop]);try simp only [go_sem,↓reduceIte,Nat.reduceEqDiff,Nat.reduceLT,Nat.reduceLeDiff,Nat.reduceAdd,Nat.reduceSub,Nat.reduceMul,Nat.reduceBEq,Nat.reduceBNe,Nat.reducePow,Int.reduceToNat,Int.reduceLE,Int.reduceLT,Int.reduceMul,Int.reduceEq,Int.reducePow,Int.reduceAdd,Int.reduceSub,Int.reduceNeg,reduceCtorEq,bA,Tryz.results81,hlt',hfl,hg0,hkw,hcs]) | (with_reducible first | refine af ?_ | refine ai ?_ | refine aj ?_ | refine ay fun K hK=>?_ | refine ap ?_ | refine aq ?_ | refine aU ?_ | refine al ?_ | refine av ?_ | refine ch ?_ | refine eN fun K hK=>?_) | (with_reducible refine hK _ ?_;clear hK K) | (with_reducible refine hK _ _ ?_ ?_;(· kernel_rfl);clear hK K) | ((with_reducible refine ag ?_ ?_);(· decide)) | (with_reducible refine cg tk0 bA ?_ ?_;(· kernel_rfl)) | (with_reducible refine bp ?_ ?_;(· (try and_intros) <;> first | omega | assumption | (simp only [List.length_append,List.length_map,List.length_cons,List.length_nil] <;> omega))) | (with_reducible refine ah (hck) ?_) | (with_reducible refine ah (hcl) ?_) | (with_reducible refine ce (cr) ?_))
   refine bi [1,6,23,24,25] (by simp only [go_sem,↓reduceIte,Nat.reduceEqDiff,Nat.reduceLT,Nat.reduceLeDiff,Nat.reduceAdd,Nat.reduceSub,Nat.reduceMul,Nat.reduceBEq,Nat.reduceBNe,Nat.reducePow,Int.reduceToNat,Int.reduceLE,Int.reduceLT,Int.reduceMul,Int.reduceEq,Int.reducePow,Int.reduceAdd,Int.reduceSub,Int.reduceNeg,reduceCtorEq];exact rfl) ?_
   refine gY ih' ?_
   simp
 have hlt' : ((k : Int) < (ps.length : Int)) = False:=eq_false (by omega)
 obtain rfl : k = ps.length:=by omega
 have hlin : ∀ l ∈ ps,cY l = true:=fun l hl=>by
  obtain ⟨j,hj,rfl⟩:=List.getElem_of_mem hl
  exact hall j hj hj
 rw [hL0 (kw hlin),List.take_of_length_le (Nat.le_refl _)]
 clear ih hall hL5 hL0
 repeat' (first | (with_reducible refine hY _ ?_;clear hY Y) | ((with_reducible first | refine an rfl (ar fun K' hK'=>aa ?_) | refine hK' _ (ab fun Y hY=>aa ?_) | refine ab fun Y hY=>aa ?_ | refine ae tk0 bA (ab fun Y hY=>aa ?_));(try clear hK' K');(try dsimp only [aop]);try simp only [go_sem,↓reduceIte,Nat.reduceEqDiff,Nat.reduceLT,Nat.reduceLeDiff,Nat.reduceAdd,Nat.reduceSub,Nat.reduceMul,Nat.reduceBEq,Nat.reduceBNe,Nat.reducePow,Int.reduceToNat,Int.reduceLE,Int.reduceLT,Int.reduceMul,Int.reduceEq,Int.reducePow,Int.reduceAdd,Int.reduceSub,Int.reduceNeg,reduceCtorEq,bA,Tryz.results81,hlt']) | (with_reducible first | refine af ?_ | refine ai ?_ | refine aj ?_ | refine ay fun K hK=>?_ | refine aq ?_ | refine bC ?_ | refine bg ?_ | refine al ?_ | refine bf ?_ | refine bG ?_) | (with_reducible refine hK _ ?_;clear hK K) | ((with_reducible refine ag ?_ ?_);(· decide)))
 generalize hR : dw ss 0 ps = R at *
 refine bK (α:=Nat × List Ln) (fun a=>[(6,.sl (a.2.flatMap lnA) a.2.length (.tok 10047)),(49,kN ss),(50,inA (ss.length : Int)),(51,inA (a.1 : Int)),(10047,.bt a.2.length 24)])
  (fun a=>a.1≤ss.length∧R = dw (ss.drop a.1) a.1 a.2∧(∀ l ∈ a.2,cY l = true)∧a.2.length≤4096 + a.1) (fun a=>ss.length - a.1) (0,ps) [6,49,50,51] ?_ ⟨Nat.zero_le _,hR.symm,hlin,by simp only;omega⟩ ?_
 ·simp only [go_sem,↓reduceIte,Nat.reduceEqDiff,Nat.reduceLT,Nat.reduceLeDiff,Nat.reduceAdd,Nat.reduceSub,Nat.reduceMul,Nat.reduceBEq,Nat.reduceBNe,Nat.reducePow,Int.reduceToNat,Int.reduceLE,Int.reduceLT,Int.reduceMul,Int.reduceEq,Int.reducePow,Int.reduceAdd,Int.reduceSub,Int.reduceNeg,reduceCtorEq] <;> rfl
 rintro ⟨k,ls⟩ ⟨hk,hS,hll,hlen⟩ ih
 simp only at hk hS hll hlen ih ⊢
 clear hlin hlt hlt' hR
 by_cases hlt : k < ss.length
 ·have hlt' : ((k : Int) < (ss.length : Int)) = True:=eq_true (by omega)
  have hkw:=cf (n:=k) (by omega)
  have hg0:=zz hlt
  have hfl:=ra ss
  have hst:=Ba ls hll (by omega) ss[k] (hss.each _ (List.getElem_mem hlt))
  have hlin:=vh (ls:=ls) hll (s:=ss[k])
  have hcs:=ei ls
  rw [q8 hlt k ls] at hS
  generalize ss[k] = s at *
  cases hr : fb ls s with
  | mk e l =>
  rw [hr] at hst hlin
  by_cases he : e = 0
  ·subst he
   rw [xi hr] at hS
   have ih':=ih (k + 1,ls ++ [l]) ⟨by simp only;omega,hS,fun x hx=>by
    rcases List.mem_append.1 hx with h | h
    ·exact hll x h
    ·simp at h;subst h;exact hlin rfl,by simp only [List.length_append,List.length_cons,List.length_nil];omega⟩ (by simp only;omega)
   simp only [tC,List.length_append,List.length_cons,List.length_nil] at ih'
   rw [iU] at hst
   clear ih hll hlin
   obtain ⟨parts,div⟩:=s
   repeat' (first | (with_reducible refine hY _ ?_;clear hY Y) | ((with_reducible first | refine an rfl (ar fun K' hK'=>aa ?_) | refine hK' _ (ab fun Y hY=>aa ?_) | refine ab fun Y hY=>aa ?_ | refine ae tk0 bA (ab fun Y hY=>aa ?_) | refine aa ?_);(try clear hK' K');(try dsimp only [aop]);try simp only [go_sem,↓reduceIte,Nat.reduceEqDiff,Nat.reduceLT,Nat.reduceLeDiff,Nat.reduceAdd,Nat.reduceSub,Nat.reduceMul,Nat.reduceBEq,Nat.reduceBNe,Nat.reducePow,Int.reduceToNat,Int.reduceLE,Int.reduceLT,Int.reduceMul,Int.reduceEq,Int.reducePow,Int.reduceAdd,Int.reduceSub,Int.reduceNeg,reduceCtorEq,bA,Tryz.results81,hlt',hfl,hg0,hkw,hcs]) | (with_reducible first | refine af ?_ | refine ai ?_ | refine aj ?_ | refine ay fun K hK=>?_ | refine ap ?_ | refine aq ?_ | refine aU ?_ | refine al ?_ | refine av ?_) | (with_reducible refine hK _ ?_;clear hK K) | ((with_reducible refine ag ?_ ?_);(· decide)) | (with_reducible refine bp ?_ ?_;(· (try and_intros) <;> first | omega | assumption | (simp only [List.length_append,List.length_map,List.length_cons,List.length_nil] <;> omega))) | (with_reducible refine ah (c5 hst ?_) ?_;(· simp [cN])) | (with_reducible refine ce (cr) ?_))
   refine bi [6,49,50,51] (by simp only [go_sem,↓reduceIte,Nat.reduceEqDiff,Nat.reduceLT,Nat.reduceLeDiff,Nat.reduceAdd,Nat.reduceSub,Nat.reduceMul,Nat.reduceBEq,Nat.reduceBNe,Nat.reducePow,Int.reduceToNat,Int.reduceLE,Int.reduceLT,Int.reduceMul,Int.reduceEq,Int.reducePow,Int.reduceAdd,Int.reduceSub,Int.reduceNeg,reduceCtorEq];exact rfl) ?_
   refine gY ih' ?_
   simp
  ·rw [xj hr he] at hS
   rw [hS,jG he,vY e k he,cK he]
   rw [sL he,cK he] at hst
   clear ih hll hlin
   obtain ⟨parts,div⟩:=s
   repeat' (first | (with_reducible refine hY _ ?_;clear hY Y) | ((with_reducible first | refine an rfl (ar fun K' hK'=>aa ?_) | refine hK' _ (ab fun Y hY=>aa ?_) | refine ab fun Y hY=>aa ?_ | refine ae tk0 bA (ab fun Y hY=>aa ?_) | refine aa ?_ | refine ao ?_);(try clear hK' K');(try dsimp only [aop]);try simp only [go_sem,↓reduceIte,Nat.reduceEqDiff,Nat.reduceLT,Nat.reduceLeDiff,Nat.reduceAdd,Nat.reduceSub,Nat.reduceMul,Nat.reduceBEq,Nat.reduceBNe,Nat.reducePow,Int.reduceToNat,Int.reduceLE,Int.reduceLT,Int.reduceMul,Int.reduceEq,Int.reducePow,Int.reduceAdd,Int.reduceSub,Int.reduceNeg,reduceCtorEq,bA,Tryz.results81,hlt',hfl,hg0,hkw,hcs]) | (with_reducible first | refine af ?_ | refine ai ?_ | refine aj ?_ | refine ay fun K hK=>?_ | refine ap ?_ | refine aS ?_ | refine bb ?_ | refine al ?_ | refine av ?_ | refine au ?_) | (with_reducible refine hK _ ?_;clear hK K) | ((with_reducible refine ag ?_ ?_);(· decide)) | (with_reducible refine bp ?_ ?_;(· (try and_intros) <;> first | omega | assumption | (simp only [List.length_append,List.length_map,List.length_cons,List.length_nil] <;> omega))) | (with_reducible refine ah (c5 hst ?_) ?_;(· simp [cN])))
 ·have hlt' : ((k : Int) < (ss.length : Int)) = False:=eq_false (by omega)
  rw [List.drop_of_length_le (by omega)] at hS
  rw [hS,show dw [] k ls = (0,-1,ls) from rfl,uI]
  clear ih hll
  repeat' (first | (with_reducible refine hY _ ?_;clear hY Y) | ((with_reducible first | refine an rfl (ar fun K' hK'=>aa ?_) | refine hK' _ (ab fun Y hY=>aa ?_) | refine ab fun Y hY=>aa ?_ | refine ae tk0 bA (ab fun Y hY=>aa ?_) | refine aa ?_ | refine ao ?_);(try clear hK' K');(try dsimp only [aop]);try simp only [go_sem,↓reduceIte,Nat.reduceEqDiff,Nat.reduceLT,Nat.reduceLeDiff,Nat.reduceAdd,Nat.reduceSub,Nat.reduceMul,Nat.reduceBEq,Nat.reduceBNe,Nat.reducePow,Int.reduceToNat,Int.reduceLE,Int.reduceLT,Int.reduceMul,Int.reduceEq,Int.reducePow,Int.reduceAdd,Int.reduceSub,Int.reduceNeg,reduceCtorEq,bA,Tryz.results81,hlt']) | (with_reducible first | refine af ?_ | refine ai ?_ | refine aj ?_ | refine ay fun K hK=>?_ | refine aq ?_ | refine bC ?_ | refine bg ?_ | refine au ?_ | refine bf ?_) | (with_reducible refine hK _ ?_;clear hK K) | ((with_reducible refine ag ?_ ?_);(· decide)))
theorem yL (ps : List Ln) (ss : List Stp) (hps : xy ps) (hss : pW ss) : AFn Tryz.prog 81 [gB ps,kN ss] [] (sx (dj ps ss)) []:=by
 refine oL (wD ps ss hps hss) 2 ?_
 generalize dj ps ss = q
 obtain ⟨e,z,ls⟩:=q
 unfold jF sx
 by_cases he : e = 0
 ·subst he;rw [if_pos rfl,tf];rfl
 ·rw [if_neg he]
  unfold eA
  split
  ·rw [cK he];rfl
  ·unfold iy;rfl
end Go.Proofs.YtmpdocplcgbpkaaGreatDoor
namespace Go.Proofs.YtmpdocplcgbpkaaGreatDoor
set_option linter.unusedSimpArgs false
set_option linter.unusedVariables false
open Go.RowKit
theorem pZ {P : Program} {f : FuncId} {args : List AV} {cs : List AV} {n m : Nat} {e : TypeId} (h : AFn P f args [] (.sl cs n (.tok 20000)) [.bt m e]) : AFn P f args [] (.sl cs n .none) []:=fun w G vs hst hX hvs hargs=>by
 refine (h w G vs hst hX hvs hargs).mono fun e' w' ⟨v,G',h1,h2,h3,h4,h5,h6⟩=>?_
 obtain ⟨ad,cap,b,off,f',rfl,⟨p1,p2,p3,p4,p5⟩,_,_⟩:=dR h2
 exact ⟨_,⟨G'.Z,fun _=>none,G'.κ,G'.β⟩,h1,.p (.sl ad b off n cap .none cs f' (.inl rfl) p1 p2 p3 p4 p5),⟨h3.agree,(fun k g hk=>by cases hk),(fun k cs ty _ hc=>by rw [iG] at hc;cases hc),(fun k k' g hk=>by cases hk),h3.gl⟩,h4,
  ⟨h5.1,fun k _=>.u (iG k)⟩,h6⟩
end Go.Proofs.YtmpdocplcgbpkaaGreatDoor
namespace Go.Proofs.YtmpdocplcgbpkaaGreatDoor
set_option linter.unusedSimpArgs false
set_option linter.unusedVariables false
open Go.RowKit
end Go.Proofs.YtmpdocplcgbpkaaGreatDoor
namespace Go.Proofs.YtmpdocplcgbpkaaGreatDoor
set_option linter.unusedSimpArgs false
set_option linter.unusedVariables false
open Go.RowKit
end Go.Proofs.YtmpdocplcgbpkaaGreatDoor
namespace Go.Proofs.YtmpdocplcgbpkaaGreatDoor
set_option linter.unusedSimpArgs false
set_option linter.unusedVariables false
open Go.RowKit
def kJ (l : Ln) : Bool:=l.t.isEmpty && decide (0 < l.c)
theorem uC (t : List Tm) : t.isEmpty = decide ((t.length : Int) = 0):=by
 cases t with
 | nil=>rfl
 | cons m r=>simp;omega
def de : Nat→List Nat
 | 0=>[0]
 | 1=>[1]
 | _=>[]
set_option maxRecDepth 100000 in
theorem AT (l : Ln) : AFn Tryz.prog 82 [.agg (lnA l)] [] (.c (.bool (kJ l))) []:=by
 unfold kJ
 rw [uC]
 by_cases h : (l.t.length : Int) = 0
 ·have h' : ((l.t.length : Int) = 0) = True:=eq_true h
  refine aD [] Tryz.func82 rfl Tryz.ntmps82 (Nat.le_of_ble_eq_true rfl) (Nat.le_of_ble_eq_true rfl) fun w0 G0 B0 Pr hB0=>?_
  simp only [aO,aA,List.cons_append,List.nil_append]
  repeat' (first | (with_reducible refine hY _ ?_;clear hY Y) | ((with_reducible first | refine an rfl (ar fun K' hK'=>aa ?_) | refine hK' _ (ab fun Y hY=>aa ?_) | refine bl rfl (ab fun Y hY=>aa ?_) | refine ab fun Y hY=>aa ?_ | refine ar fun K' hK'=>aa ?_ | refine ae tk0 de (ab fun Y hY=>aa ?_) | refine aa ?_ | refine ao ?_);(try clear hK' K');(try dsimp only [aop]);try simp only [go_sem,↓reduceIte,Nat.reduceEqDiff,Nat.reduceLT,Nat.reduceLeDiff,Nat.reduceAdd,Nat.reduceSub,Nat.reduceMul,Nat.reduceBEq,Nat.reduceBNe,Nat.reducePow,Int.reduceToNat,Int.reduceLE,Int.reduceLT,Int.reduceMul,Int.reduceEq,Int.reducePow,Int.reduceAdd,Int.reduceSub,Int.reduceNeg,reduceCtorEq,de,Tryz.results82,h']) | (with_reducible first | refine af ?_ | refine aL ?_ | refine ai ?_ | refine aj ?_ | refine ay fun K hK=>?_ | refine au ?_) | (with_reducible refine hK _ ?_;clear hK K) | ((with_reducible refine aG ?_ ?_);(· decide)))
 ·have h' : ((l.t.length : Int) = 0) = False:=eq_false h
  refine aD [] Tryz.func82 rfl Tryz.ntmps82 (Nat.le_of_ble_eq_true rfl) (Nat.le_of_ble_eq_true rfl) fun w0 G0 B0 Pr hB0=>?_
  simp only [aO,aA,List.cons_append,List.nil_append]
  repeat' (first | (with_reducible refine hY _ ?_;clear hY Y) | ((with_reducible first | refine an rfl (ar fun K' hK'=>aa ?_) | refine hK' _ (ab fun Y hY=>aa ?_) | refine bl rfl (ab fun Y hY=>aa ?_) | refine ab fun Y hY=>aa ?_ | refine ae tk0 de (ab fun Y hY=>aa ?_) | refine aa ?_ | refine ao ?_);(try clear hK' K');(try dsimp only [aop]);try simp only [go_sem,↓reduceIte,Nat.reduceEqDiff,Nat.reduceLT,Nat.reduceLeDiff,Nat.reduceAdd,Nat.reduceSub,Nat.reduceMul,Nat.reduceBEq,Nat.reduceBNe,Nat.reducePow,Int.reduceToNat,Int.reduceLE,Int.reduceLT,Int.reduceMul,Int.reduceEq,Int.reducePow,Int.reduceAdd,Int.reduceSub,Int.reduceNeg,reduceCtorEq,de,Tryz.results82,h']) | (with_reducible first | refine af ?_ | refine bh rfl ?_ | refine cS ?_ ?_ | refine ai ?_ | refine aj ?_ | refine ay fun K hK=>?_ | refine au ?_) | (with_reducible refine hK _ ?_;clear hK K) | ((with_reducible refine aG ?_ ?_);(· decide)))
def aZ : Nat→List Nat
 | 0=>[0,1]
 | 1=>[0,1]
 | 2=>[0,1,7,8]
 | 3=>[0,1,7,8]
 | 4=>[0,1,5,7,8]
 | 5=>[5]
 | 6=>[0,1,7,8]
 | 7=>[]
 | _=>[]
set_option maxRecDepth 100000 in
set_option maxHeartbeats 8000000 in
theorem AA (l : List Ln) (hl : Lg l) :
  AFn Tryz.prog 106 [gB l,.fn (.func 82) [] []] [] (inA (fiP kJ l)) []:=by
 unfold Lg at hl
 refine aD [] Tryz.func106 rfl Tryz.ntmps106 (Nat.le_of_ble_eq_true rfl) (Nat.le_of_ble_eq_true rfl) fun w0 G0 B0 Pr hB0=>?_
 simp only [aO,aA,List.cons_append,List.nil_append]
 repeat' (first | (with_reducible refine hY _ ?_;clear hY Y) | ((with_reducible first | refine an rfl (ar fun K' hK'=>aa ?_) | refine hK' _ (ab fun Y hY=>aa ?_) | refine ae tk0 aZ (ab fun Y hY=>aa ?_));(try clear hK' K');(try dsimp only [aop]);try simp only [go_sem,↓reduceIte,Nat.reduceEqDiff,Nat.reduceLT,Nat.reduceLeDiff,Nat.reduceAdd,Nat.reduceSub,Nat.reduceMul,Nat.reduceBEq,Nat.reduceBNe,Nat.reducePow,Int.reduceToNat,Int.reduceLE,Int.reduceLT,Int.reduceMul,Int.reduceEq,Int.reducePow,Int.reduceAdd,Int.reduceSub,Int.reduceNeg,reduceCtorEq,aZ,Tryz.results106]) | (with_reducible first | refine af ?_ | refine ai ?_ | refine aj ?_ | refine ay fun K hK=>?_ | refine al ?_ | refine bG ?_) | (with_reducible refine hK _ ?_;clear hK K))
 refine bK (α:=Nat) (fun k=>[(0,gB l),(1,.fn (.func 82) [] []),(7,inA (l.length : Int)),(8,inA (k : Int))])
  (fun k=>k≤l.length∧∀ j (hj : j < l.length),j < k→kJ l[j] = false) (fun k=>l.length - k) 0 [0,1,7,8] ?_ ⟨Nat.zero_le _,fun j _ hj=>absurd hj (Nat.not_lt_zero _)⟩ ?_
 ·simp only [go_sem,↓reduceIte,Nat.reduceEqDiff,Nat.reduceLT,Nat.reduceLeDiff,Nat.reduceAdd,Nat.reduceSub,Nat.reduceMul,Nat.reduceBEq,Nat.reduceBNe,Nat.reducePow,Int.reduceToNat,Int.reduceLE,Int.reduceLT,Int.reduceMul,Int.reduceEq,Int.reducePow,Int.reduceAdd,Int.reduceSub,Int.reduceNeg,reduceCtorEq] <;> rfl
 rintro k ⟨hk,hall⟩ ih
 by_cases hlt : k < l.length
 ·have hlt' : ((k : Int) < (l.length : Int)) = True:=eq_true (by omega)
  have hkw:=cf (n:=k) (by omega)
  have h1:=AT l[k]
  have hg0:=jo hlt
  have hfl:=ei l
  have hfi:=lz (p:=kJ) hlt hall
  have hnx : kJ l[k] = false→∀ j (hj : j < l.length),j < k + 1→kJ l[j] = false:=fun e j hj hjk=>by
   by_cases hj2 : j < k
   ·exact hall j hj hj2
   ·have : j = k:=by omega
    subst this;exact e
  generalize l[k] = t at *
  generalize hp : kJ t = b at *
  cases b with
  | true =>
   rw [hfi rfl]
   clear ih hfi hnx hall
   repeat' (first | (with_reducible refine hY _ ?_;clear hY Y) | ((with_reducible first | refine an rfl (ar fun K' hK'=>aa ?_) | refine hK' _ (ab fun Y hY=>aa ?_) | refine ab fun Y hY=>aa ?_ | refine ae tk0 aZ (ab fun Y hY=>aa ?_) | refine aa ?_ | refine ao ?_);(try clear hK' K');(try dsimp only [aop]);try simp only [go_sem,↓reduceIte,Nat.reduceEqDiff,Nat.reduceLT,Nat.reduceLeDiff,Nat.reduceAdd,Nat.reduceSub,Nat.reduceMul,Nat.reduceBEq,Nat.reduceBNe,Nat.reducePow,Int.reduceToNat,Int.reduceLE,Int.reduceLT,Int.reduceMul,Int.reduceEq,Int.reducePow,Int.reduceAdd,Int.reduceSub,Int.reduceNeg,reduceCtorEq,aZ,Tryz.results106,hlt',hfl,hg0,hkw]) | (with_reducible first | refine af ?_ | refine ai ?_ | refine aj ?_ | refine ay fun K hK=>?_ | refine ap ?_ | refine aS ?_ | refine bb ?_ | refine al ?_ | refine av ?_ | refine au ?_) | (with_reducible refine hK _ ?_;clear hK K) | ((with_reducible refine ag ?_ ?_);(· decide)) | (with_reducible refine bp ?_ ?_;(· (try and_intros) <;> first | omega | assumption | (simp only [List.length_append,List.length_map,List.length_cons,List.length_nil] <;> omega))) | (with_reducible refine ah (h1) ?_))
  | false =>
   clear hfi
   repeat' (first | (with_reducible refine hY _ ?_;clear hY Y) | ((with_reducible first | refine an rfl (ar fun K' hK'=>aa ?_) | refine hK' _ (ab fun Y hY=>aa ?_) | refine ab fun Y hY=>aa ?_ | refine ae tk0 aZ (ab fun Y hY=>aa ?_) | refine aa ?_);(try clear hK' K');(try dsimp only [aop]);try simp only [go_sem,↓reduceIte,Nat.reduceEqDiff,Nat.reduceLT,Nat.reduceLeDiff,Nat.reduceAdd,Nat.reduceSub,Nat.reduceMul,Nat.reduceBEq,Nat.reduceBNe,Nat.reducePow,Int.reduceToNat,Int.reduceLE,Int.reduceLT,Int.reduceMul,Int.reduceEq,Int.reducePow,Int.reduceAdd,Int.reduceSub,Int.reduceNeg,reduceCtorEq,aZ,Tryz.results106,hlt',hfl,hg0,hkw]) | (with_reducible first | refine af ?_ | refine ai ?_ | refine aj ?_ | refine ay fun K hK=>?_ | refine ap ?_ | refine aq ?_ | refine aU ?_ | refine al ?_ | refine av ?_) | (with_reducible refine hK _ ?_;clear hK K) | ((with_reducible refine ag ?_ ?_);(· decide)) | (with_reducible refine bp ?_ ?_;(· (try and_intros) <;> first | omega | assumption | (simp only [List.length_append,List.length_map,List.length_cons,List.length_nil] <;> omega))) | (with_reducible refine ah (h1) ?_))
   refine bi [0,1,7,8] (by simp only [go_sem,↓reduceIte,Nat.reduceEqDiff,Nat.reduceLT,Nat.reduceLeDiff,Nat.reduceAdd,Nat.reduceSub,Nat.reduceMul,Nat.reduceBEq,Nat.reduceBNe,Nat.reducePow,Int.reduceToNat,Int.reduceLE,Int.reduceLT,Int.reduceMul,Int.reduceEq,Int.reducePow,Int.reduceAdd,Int.reduceSub,Int.reduceNeg,reduceCtorEq];exact rfl) ?_
   exact ih (k + 1) ⟨by omega,hnx rfl⟩ (by omega)
 ·have hlt' : ((k : Int) < (l.length : Int)) = False:=eq_false (by omega)
  rw [lC fun j hj=>hall j hj (by omega)]
  clear ih hall
  repeat' (first | (with_reducible refine hY _ ?_;clear hY Y) | ((with_reducible first | refine an rfl (ar fun K' hK'=>aa ?_) | refine hK' _ (ab fun Y hY=>aa ?_) | refine ab fun Y hY=>aa ?_ | refine ae tk0 aZ (ab fun Y hY=>aa ?_) | refine aa ?_ | refine ao ?_);(try clear hK' K');(try dsimp only [aop]);try simp only [go_sem,↓reduceIte,Nat.reduceEqDiff,Nat.reduceLT,Nat.reduceLeDiff,Nat.reduceAdd,Nat.reduceSub,Nat.reduceMul,Nat.reduceBEq,Nat.reduceBNe,Nat.reducePow,Int.reduceToNat,Int.reduceLE,Int.reduceLT,Int.reduceMul,Int.reduceEq,Int.reducePow,Int.reduceAdd,Int.reduceSub,Int.reduceNeg,reduceCtorEq,aZ,Tryz.results106,hlt']) | (with_reducible first | refine af ?_ | refine ai ?_ | refine aj ?_ | refine ay fun K hK=>?_ | refine aq ?_ | refine bC ?_ | refine bg ?_ | refine au ?_ | refine bf ?_) | (with_reducible refine hK _ ?_;clear hK K) | ((with_reducible refine ag ?_ ?_);(· decide)))
def cL : Nat→List Nat
 | 0=>[0,1]
 | 1=>[0,1]
 | _=>[]
set_option maxRecDepth 100000 in
theorem Av (l : List Ln) (hl : Lg l) : AFn Tryz.prog 76 [gB l,.fn (.func 82) [] []] [] (.c (.bool (l.any kJ))) []:=by
 have h1:=AA l hl
 have h2 : decide (0≤fiP kJ l) = l.any kJ:=j3 kJ l
 refine aD [] Tryz.func76 rfl Tryz.ntmps76 (Nat.le_of_ble_eq_true rfl) (Nat.le_of_ble_eq_true rfl) fun w0 G0 B0 Pr hB0=>?_
 simp only [aO,aA,List.cons_append,List.nil_append]
 repeat' (first | (with_reducible refine hY _ ?_;clear hY Y) | ((with_reducible first | refine an rfl (ar fun K' hK'=>aa ?_) | refine hK' _ (ab fun Y hY=>aa ?_) | refine ae tk0 cL (ab fun Y hY=>aa ?_) | refine aa ?_ | refine ao ?_);(try clear hK' K');(try dsimp only [aop]);try simp only [go_sem,↓reduceIte,Nat.reduceEqDiff,Nat.reduceLT,Nat.reduceLeDiff,Nat.reduceAdd,Nat.reduceSub,Nat.reduceMul,Nat.reduceBEq,Nat.reduceBNe,Nat.reducePow,Int.reduceToNat,Int.reduceLE,Int.reduceLT,Int.reduceMul,Int.reduceEq,Int.reducePow,Int.reduceAdd,Int.reduceSub,Int.reduceNeg,reduceCtorEq,cL,Tryz.results76,h2]) | (with_reducible first | refine af ?_ | refine ai ?_ | refine aj ?_ | refine ay fun K hK=>?_ | refine au ?_) | (with_reducible refine hK _ ?_;clear hK K) | (with_reducible refine ah (h1) ?_))
theorem qE (ls : List Ln) : ∀ (p : List Tm) (c : Int) (ts : List Tm),(d5 ls p c ts).1≤7
 | [],c,ts=>Nat.zero_le _
 | m :: r,c,ts=>by
  unfold d5
  split
  ·simp
  ·split
   ·simp
   ·exact qE ls r _ _
theorem rZ (c : Int) (ts : List Tm) (div : Int) : (da c ts div).1≤7:=by
 unfold da
 repeat' split
 all_goals simp
theorem zy (ls : List Ln) (s : Stp) : (fb ls s).1≤7:=by
 unfold fb
 split
 ·simp
 ·simp only
  split
  ·exact rZ _ _ _
  ·exact qE _ _ _ _
theorem q9 : ∀ (ss : List Stp) (i : Nat) (ls : List Ln),(dw ss i ls).1≤7∧((dw ss i ls).1 = 0→(dw ss i ls).2.1 = -1)∧((dw ss i ls).1 = 0→(dw ss i ls).2.2.length = ls.length + ss.length)
 | [],i,ls=>⟨by simp [dw],fun _=>rfl,fun _=>rfl⟩
 | s :: r,i,ls=>by
  unfold dw
  split
  ·obtain ⟨h1,h2,h3⟩:=q9 r (i + 1) (ls ++ [(fb ls s).2])
   exact ⟨h1,h2,fun h=>by rw [h3 h];simp;omega⟩
  ·rename_i h
   exact ⟨zy ls s,fun h2=>absurd h2 h,fun h2=>absurd h2 h⟩
theorem wC (ps : List Ln) (ss : List Stp) : (dj ps ss).1≤7∧((dj ps ss).1 = 0→(dj ps ss).2.1 = -1)∧((dj ps ss).1 = 0→(dj ps ss).2.2.length = ps.length + ss.length∧ps.length≤4096∧ss.length≤4096):=by
 unfold dj
 split
 ·exact ⟨by simp,fun h=>by simp at h,fun h=>by simp at h⟩
 ·rename_i hl
  split
  ·exact ⟨by simp,fun h=>by simp at h,fun h=>by simp at h⟩
  ·obtain ⟨h1,h2,h3⟩:=q9 ss 0 ps
   exact ⟨h1,h2,fun h=>⟨h3 h,by omega,by omega⟩⟩
theorem qN (ps : List Ln) (ss : List Stp) : gf ps ss = if (dj ps ss).1 = 0 then (if (dj ps ss).2.2.any kJ then (0,-1) else (8,-1)) else ((dj ps ss).1,(dj ps ss).2.1):=rfl
def cu : Nat→List Nat
 | 0=>[0,1]
 | 1=>[0,1]
 | 2=>[5,6]
 | 3=>[6]
 | 4=>[5]
 | 5=>[]
 | 6=>[]
 | _=>[]
set_option maxRecDepth 100000 in
set_option maxHeartbeats 8000000 in
theorem uT (ps : List Ln) (ss : List Stp) (hps : xy ps) (hss : pW ss) : AFn Tryz.prog 40 [gB ps,kN ss] [] (eA (gf ps ss).1 (gf ps ss).2) []:=by
 have hl:=yL ps ss hps hss
 have hq:=wC ps ss
 rw [qN]
 generalize dj ps ss = q at *
 obtain ⟨e,z,ls⟩:=q
 unfold sx at hl
 simp only at hl hq ⊢
 by_cases he : e = 0
 ·subst he
  rw [tf] at hl
  have hlen:=(hq.2.2 rfl)
  have hc:=Av ls (by unfold Lg;omega)
  rw [if_pos rfl]
  cases ha : ls.any kJ with
  | true =>
   rw [ha] at hc
   rw [if_pos rfl,tf]
   refine aD [] Tryz.func40 rfl Tryz.ntmps40 (Nat.le_of_ble_eq_true rfl) (Nat.le_of_ble_eq_true rfl) fun w0 G0 B0 Pr hB0=>?_
   simp only [aO,aA,List.cons_append,List.nil_append]
   repeat' (first | (with_reducible refine hY _ ?_;clear hY Y) | ((with_reducible first | refine an rfl (ar fun K' hK'=>aa ?_) | refine hK' _ (ab fun Y hY=>aa ?_) | refine ab fun Y hY=>aa ?_ | refine ae tk0 cu (ab fun Y hY=>aa ?_) | refine aa ?_ | refine ao ?_);(try clear hK' K');(try dsimp only [aop]);try simp only [go_sem,↓reduceIte,Nat.reduceEqDiff,Nat.reduceLT,Nat.reduceLeDiff,Nat.reduceAdd,Nat.reduceSub,Nat.reduceMul,Nat.reduceBEq,Nat.reduceBNe,Nat.reducePow,Int.reduceToNat,Int.reduceLE,Int.reduceLT,Int.reduceMul,Int.reduceEq,Int.reducePow,Int.reduceAdd,Int.reduceSub,Int.reduceNeg,reduceCtorEq,cu,Tryz.results40]) | (with_reducible first | refine af ?_ | refine ai ?_ | refine aj ?_ | refine ay fun K hK=>?_ | refine aq ?_ | refine av ?_ | refine au ?_) | (with_reducible refine hK _ ?_;clear hK K) | ((with_reducible refine ag ?_ ?_);(· decide)) | (with_reducible refine ah (hl) ?_) | (with_reducible refine ah (hc) ?_) | (with_reducible refine ce (cr) ?_))
  | false =>
   rw [ha] at hc
   rw [if_neg (by decide),show eA (8,(-1 : Int)).1 (8,(-1 : Int)).2 = b9 8 from rfl,An]
   refine aD [] Tryz.func40 rfl Tryz.ntmps40 (Nat.le_of_ble_eq_true rfl) (Nat.le_of_ble_eq_true rfl) fun w0 G0 B0 Pr hB0=>?_
   simp only [aO,aA,List.cons_append,List.nil_append]
   repeat' (first | (with_reducible refine hY _ ?_;clear hY Y) | ((with_reducible first | refine an rfl (ar fun K' hK'=>aa ?_) | refine hK' _ (ab fun Y hY=>aa ?_) | refine ab fun Y hY=>aa ?_ | refine ae tk0 cu (ab fun Y hY=>aa ?_) | refine aa ?_ | refine ao ?_);(try clear hK' K');(try dsimp only [aop]);try simp only [go_sem,↓reduceIte,Nat.reduceEqDiff,Nat.reduceLT,Nat.reduceLeDiff,Nat.reduceAdd,Nat.reduceSub,Nat.reduceMul,Nat.reduceBEq,Nat.reduceBNe,Nat.reducePow,Int.reduceToNat,Int.reduceLE,Int.reduceLT,Int.reduceMul,Int.reduceEq,Int.reducePow,Int.reduceAdd,Int.reduceSub,Int.reduceNeg,reduceCtorEq,cu,Tryz.results40]) | (with_reducible first | refine af ?_ | refine ai ?_ | refine aj ?_ | refine ay fun K hK=>?_ | refine ap ?_ | refine aq ?_ | refine aS ?_ | refine av ?_ | refine au ?_) | (with_reducible refine hK _ ?_;clear hK K) | ((with_reducible refine ag ?_ ?_);(· decide)) | (with_reducible refine ah (hl) ?_) | (with_reducible refine ah (hc) ?_) | (with_reducible refine ce (cr) ?_))
 ·rw [if_neg he]
  simp only
  by_cases hz : z < 0
  ·rw [show eA e z = b9 e from if_pos (.inl hz),cK he] at hl ⊢
   refine aD [] Tryz.func40 rfl Tryz.ntmps40 (Nat.le_of_ble_eq_true rfl) (Nat.le_of_ble_eq_true rfl) fun w0 G0 B0 Pr hB0=>?_
   simp only [aO,aA,List.cons_append,List.nil_append]
   repeat' (first | (with_reducible refine hY _ ?_;clear hY Y) | ((with_reducible first | refine an rfl (ar fun K' hK'=>aa ?_) | refine hK' _ (ab fun Y hY=>aa ?_) | refine ab fun Y hY=>aa ?_ | refine ae tk0 cu (ab fun Y hY=>aa ?_) | refine aa ?_ | refine ao ?_);(try clear hK' K');(try dsimp only [aop]);try simp only [go_sem,↓reduceIte,Nat.reduceEqDiff,Nat.reduceLT,Nat.reduceLeDiff,Nat.reduceAdd,Nat.reduceSub,Nat.reduceMul,Nat.reduceBEq,Nat.reduceBNe,Nat.reducePow,Int.reduceToNat,Int.reduceLE,Int.reduceLT,Int.reduceMul,Int.reduceEq,Int.reducePow,Int.reduceAdd,Int.reduceSub,Int.reduceNeg,reduceCtorEq,cu,Tryz.results40]) | (with_reducible first | refine af ?_ | refine ai ?_ | refine aj ?_ | refine ay fun K hK=>?_ | refine ap ?_ | refine aS ?_ | refine au ?_) | (with_reducible refine hK _ ?_;clear hK K) | ((with_reducible refine ag ?_ ?_);(· decide)) | (with_reducible refine ah (hl) ?_))
  ·rw [show eA e z = iy z e from if_neg (by omega)] at hl ⊢
   unfold iy at hl ⊢
   refine aD [] Tryz.func40 rfl Tryz.ntmps40 (Nat.le_of_ble_eq_true rfl) (Nat.le_of_ble_eq_true rfl) fun w0 G0 B0 Pr hB0=>?_
   simp only [aO,aA,List.cons_append,List.nil_append]
   repeat' (first | (with_reducible refine hY _ ?_;clear hY Y) | ((with_reducible first | refine an rfl (ar fun K' hK'=>aa ?_) | refine hK' _ (ab fun Y hY=>aa ?_) | refine ab fun Y hY=>aa ?_ | refine ae tk0 cu (ab fun Y hY=>aa ?_) | refine aa ?_ | refine ao ?_);(try clear hK' K');(try dsimp only [aop]);try simp only [go_sem,↓reduceIte,Nat.reduceEqDiff,Nat.reduceLT,Nat.reduceLeDiff,Nat.reduceAdd,Nat.reduceSub,Nat.reduceMul,Nat.reduceBEq,Nat.reduceBNe,Nat.reducePow,Int.reduceToNat,Int.reduceLE,Int.reduceLT,Int.reduceMul,Int.reduceEq,Int.reducePow,Int.reduceAdd,Int.reduceSub,Int.reduceNeg,reduceCtorEq,cu,Tryz.results40]) | (with_reducible first | refine af ?_ | refine ai ?_ | refine aj ?_ | refine ay fun K hK=>?_ | refine ap ?_ | refine aS ?_ | refine au ?_) | (with_reducible refine hK _ ?_;clear hK K) | ((with_reducible refine ag ?_ ?_);(· decide)) | (with_reducible refine ah (hl) ?_))
end Go.Proofs.YtmpdocplcgbpkaaGreatDoor
namespace Go.Proofs.YtmpdocplcgbpkaaGreatDoor
set_option linter.unusedSimpArgs false
set_option linter.unusedVariables false
theorem wR {a b : List Fo} (h1 : jZ a) (h2 : jZ b) : jZ (a ++ b):=pC fun f hf=>(List.mem_append.1 hf).elim (iu h1 f) (iu h2 f)
theorem eV {α : Type} : Lg ([] : List α):=by unfold Lg;simp
theorem wz {α : Type} (x : α) : Lg [x]:=by unfold Lg;simp
theorem wB {α : Type} (x y : α) : Lg [x,y]:=by unfold Lg;simp
theorem jW : OkF fT:=⟨eV,eV,trivial⟩
theorem z6 : OkF fF:=⟨eV,eV,trivial⟩
theorem wA {l : Ln} (h : Lg l.t) : Lg (gK l).t:=by unfold Lg gK;rw [je];exact h
theorem qw {x : Int} {t : List Tm} (h : Lg t) : Lg (cz x t):=by unfold Lg cz;rw [List.length_map];exact h
theorem tH {l : Ln} (h : Lg l.t) : OkF (fh l).2:=by
 unfold fh
 split
 ·exact jW
 ·split
  ·split
   ·exact jW
   ·exact z6
  ·split
   ·exact ⟨wA h,eV,trivial⟩
   ·split
    ·exact ⟨eV,wz _,⟨qw (wA h),eV,trivial⟩,trivial⟩
    ·exact jW
theorem ma : ∀ {f : Fo},OkF f→OkF (lh f)
 | .mk k l ks,h=>by
  show OkF (if k = 0 then fF else if k = 1 then fT else if k = 4 then ks.headD fT else .mk 4 ⟨0,[]⟩ [.mk k l ks])
  split
  ·exact z6
  ·split
   ·exact jW
   ·split
    ·cases ks with
     | nil=>exact jW
     | cons f r=>exact h.2.2.1
    ·exact ⟨eV,wz _,h,trivial⟩
theorem wQ {k : Int} {l : Ln} (h : Lg l.t) (no : Bool) : OkF (gR k l no).2:=by
 have h1:=tH h
 have h2 : OkF (fh (jT l)).2:=tH (l:=jT l) (qw h)
 unfold gR
 split
 ·exact jW
 ·split
  ·cases no
   ·exact h1
   ·exact ma h1
  ·split
   ·exact jW
   ·cases no
    ·exact ⟨eV,wB _ _,h1,h2,trivial⟩
    ·exact ⟨eV,wB _ _,ma h1,ma h2,trivial⟩
mutual
theorem lf : ∀ (f : Fo) (no : Bool),OkF f→OkF (dG f no).2
 | .mk k l ks,no,h=>by
  rw [dG]
  split
  ·exact wQ h.1 no
  ·split
   ·exact uN ks (!no) h.2.2
   ·split
    ·split
     ·obtain ⟨h1,h2⟩:=n5 ks no [] h.2.2 trivial
      exact ⟨eV,by have:=h.2.1;unfold Lg at this ⊢;simp only [List.length_nil] at h2;omega,h1⟩
     ·exact jW
    ·cases no
     ·exact h
     ·exact ma h
theorem uN : ∀ (ks : List Fo) (no : Bool),jZ ks→OkF (i5 ks no).2
 | [],_,_=>by rw [i5];exact jW
 | f :: r,no,h=>by rw [i5];exact lf f no h.1
theorem n5 : ∀ (ks : List Fo) (no : Bool) (out : List Fo),jZ ks→jZ out→jZ (dx ks no out).2∧(dx ks no out).2.length≤out.length + ks.length
 | [],_,out,_,h=>by rw [dx];exact ⟨h,Nat.le_refl _⟩
 | f :: r,no,out,hk,h=>by
  rw [dx]
  split
  ·obtain ⟨h1,h2⟩:=n5 r no (out ++ [(dG f no).2]) hk.2 (wR h ⟨lf f no hk.1,trivial⟩)
   refine ⟨h1,?_⟩
   rw [List.length_append,List.length_singleton] at h2
   rw [List.length_cons];omega
  ·exact ⟨trivial,Nat.zero_le _⟩
end
theorem qD {f : Fo} (h : OkF f) : OkF (c7 f).2:=by
 unfold c7
 split
 ·exact lf f false h
 ·exact jW
theorem wS {ls : List Ln} {z : Int} (hl : ∀ l ∈ ls,cY l = true) (hz : ml ls.length z = false) : (jr ls z).2.t.length≤64:=by
 obtain ⟨i,hi,he,_⟩:=oN hz
 have h64:=(ef (hl _ (List.getElem_mem hi))).2.1
 unfold jr
 rw [he]
 split
 ·exact h64
 ·split
  ·show (cz (-1) ls[i].t).length≤64
   unfold cz
   rw [List.length_map];exact h64
  ·exact Nat.zero_le _
theorem y7 {ls : List Ln} {zs : List Int} (hz : zs.length≤100000) : xy (gG ls zs).2:=by
 by_cases h : (gG ls zs).1 = 0
 ·obtain ⟨h1,h2,h3⟩:=qJ h
  rw [h3]
  refine ⟨by unfold Lg;rw [List.length_map];omega,fun l hl=>?_⟩
  obtain ⟨z,hz,rfl⟩:=List.mem_map.1 hl
  have:=wS h1 (h2 z hz)
  omega
 ·have : (gG ls zs).2 = []:=by
   unfold gG at h ⊢
   split
   ·rfl
   ·split
    ·rfl
    ·rename_i h1 h2
     rw [if_neg h1,if_neg h2] at h
     exact qI ls zs [] h
  rw [this]
  exact ⟨eV,fun l hl=>absurd hl List.not_mem_nil⟩
theorem su {ls : List Ln} {ms : List Lem} {i : Nat} (h : i < ms.length) : gS ls (ms.drop i) i = if pr ls ms[i] ≠ 0 then (pr ls ms[i],(i : Int)) else gS ls (ms.drop (i + 1)) (i + 1):=by
 rw [List.drop_eq_getElem_cons h,gS]
end Go.Proofs.YtmpdocplcgbpkaaGreatDoor
