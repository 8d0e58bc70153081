/- Clauses in K: a formula's literal, whose clauses are made. Clauses in K: literal, walked. -/
import Derived.Test.YtmpdocplcgbpkaaGreatDoorZ13
namespace Go.Proofs.YtmpdocplcgbpkaaGreatDoor
set_option linter.unusedSimpArgs false
set_option linter.unusedVariables false
open Go.RowKit
abbrev Cls:=List (List Int × Bool)
def il (v k : Int) : Int:=if v < 0 then -k else k
def oK (v : Int) (vals : List Int) (cs : Cls) : Cls:=cs ++ vals.map (fun k=>([-v,il v k],true)) ++ [(v :: vals.map (fun k=>-(il v k)),false)]
mutual
def dc (ls : List Ln) : Fo→Int→Cls→Int × Int × Cls
 | .mk k l ks,N,cs =>
  if k = 2 then (atN ls l,N,cs)
  else if k = 4 then (-(jn ls ks N cs).1,(jn ls ks N cs).2)
  else ((dU ls ks N cs []).2.1 + 1,(dU ls ks N cs []).2.1 + 1,oK (if k = 6∨k = 1 then -((dU ls ks N cs []).2.1 + 1) else (dU ls ks N cs []).2.1 + 1) (dU ls ks N cs []).1 (dU ls ks N cs []).2.2)
def jn (ls : List Ln) : List Fo→Int→Cls→Int × Int × Cls
 | [],N,cs=>(0,N,cs)
 | f :: _,N,cs=>dc ls f N cs
def dU (ls : List Ln) : List Fo→Int→Cls→List Int→List Int × Int × Cls
 | [],N,cs,out=>(out,N,cs)
 | f :: r,N,cs,out=>dU ls r (dc ls f N cs).2.1 (dc ls f N cs).2.2 (out ++ [(dc ls f N cs).1])
end
theorem vB (v : Int) (vals : List Int) (cs : Cls) : (oK v vals cs).length = cs.length + vals.length + 1:=by
 unfold oK;simp;omega
mutual
theorem iP (ls : List Ln) : ∀ (f : Fo) (N : Int) (cs : Cls),0≤N →
  (0≤(dc ls f N cs).2.1∧(dc ls f N cs).2.1≤N + tot f)∧(dc ls f N cs).2.2.length + 1≤cs.length + 2 * tot f ∧
  (∀ B : Int,(ls.length : Int)≤B→N + tot f≤B→-B≤(dc ls f N cs).1∧(dc ls f N cs).1≤B)
 | .mk k l ks,N,cs,hN=>by
  rw [dc,tot]
  split
  ·refine ⟨⟨hN,by simp only;omega⟩,by simp only;omega,fun B h1 h2=>?_⟩
   have:=wb (fu l) ls
   unfold atN
   simp only
   omega
  ·split
   ·obtain ⟨h1,h2,h3⟩:=yM ls ks N cs hN
    refine ⟨⟨h1.1,by simp only;omega⟩,by simp only;omega,fun B a b=>?_⟩
    have:=h3 B a (by omega)
    simp only
    omega
   ·obtain ⟨h1,h2,h3,h4⟩:=l8 ls ks N cs [] hN
    refine ⟨⟨by simp only;omega,by simp only;omega⟩,?_,fun B a b=>?_⟩
    ·simp only [vB]
     rw [h3,List.length_nil]
     have:=jO ks
     omega
    ·simp only;omega
theorem yM (ls : List Ln) : ∀ (ks : List Fo) (N : Int) (cs : Cls),0≤N →
  (0≤(jn ls ks N cs).2.1∧(jn ls ks N cs).2.1≤N + dJ ks)∧(jn ls ks N cs).2.2.length≤cs.length + 2 * dJ ks ∧
  (∀ B : Int,(ls.length : Int)≤B→N + dJ ks≤B→-B≤(jn ls ks N cs).1∧(jn ls ks N cs).1≤B)
 | [],N,cs,hN=>by
  rw [jn,dJ]
  refine ⟨⟨hN,by simp only;omega⟩,by simp only;omega,fun B h1 h2=>?_⟩
  simp only
  omega
 | f :: r,N,cs,hN=>by
  obtain ⟨h1,h2,h3⟩:=iP ls f N cs hN
  rw [jn,dJ]
  exact ⟨⟨h1.1,by omega⟩,by omega,fun B a b=>h3 B a (by omega)⟩
theorem l8 (ls : List Ln) : ∀ (ks : List Fo) (N : Int) (cs : Cls) (out : List Int),0≤N →
  (0≤(dU ls ks N cs out).2.1∧(dU ls ks N cs out).2.1≤N + dJ ks)∧(dU ls ks N cs out).2.2.length + ks.length≤cs.length + 2 * dJ ks∧(dU ls ks N cs out).1.length = out.length + ks.length ∧
  (∀ B : Int,(ls.length : Int)≤B→N + dJ ks≤B→(∀ x ∈ out,-B≤x∧x≤B)→∀ x ∈ (dU ls ks N cs out).1,-B≤x∧x≤B)
 | [],N,cs,out,hN=>by
  rw [dU,dJ]
  exact ⟨⟨hN,by simp only;omega⟩,by simp,by simp,fun B _ _ h=>h⟩
 | f :: r,N,cs,out,hN=>by
  obtain ⟨h1,h2,h3⟩:=iP ls f N cs hN
  obtain ⟨g1,g2,g3,g4⟩:=l8 ls r (dc ls f N cs).2.1 (dc ls f N cs).2.2 (out ++ [(dc ls f N cs).1]) h1.1
  rw [dU,dJ]
  refine ⟨⟨g1.1,by omega⟩,by simp only [List.length_cons];omega,by rw [g3];simp only [List.length_append,List.length_cons,List.length_nil];omega,fun B a b hx=>g4 B a (by omega) fun x hm=>?_⟩
  rcases List.mem_append.1 hm with hm | hm
  ·exact hx x hm
  ·rw [List.mem_singleton] at hm;subst hm;exact h3 B a (by omega)
theorem jO : ∀ l : List Fo,l.length≤dJ l
 | []=>Nat.le_refl _
 | .mk _ _ ks :: r=>by
  have:=jO r
  rw [dJ,tot,List.length_cons];omega
end
end Go.Proofs.YtmpdocplcgbpkaaGreatDoor
namespace Go.Proofs.YtmpdocplcgbpkaaGreatDoor
set_option linter.unusedSimpArgs false
set_option linter.unusedVariables false
open Go.RowKit
mutual
def sn : Fo→Prop
 | .mk k _ ks=>(k = 4→ks ≠ [])∧qr ks
def qr : List Fo→Prop
 | []=>True
 | f :: r=>sn f∧qr r
end
theorem nS : ∀ {l : List Fo},qr l→∀ f ∈ l,sn f
 | [],_=>fun f h=>absurd h List.not_mem_nil
 | a :: l,h=>fun f hf=>by
  rcases List.mem_cons.1 hf with rfl | hf
  ·exact h.1
  ·exact nS h.2 f hf
theorem uK (ls : List Ln) {ks : List Fo} {i : Nat} (h : i < ks.length) (N : Int) (cs : Cls) (out : List Int) : dU ls (ks.drop i) N cs out = dU ls (ks.drop (i + 1)) (dc ls ks[i] N cs).2.1 (dc ls ks[i] N cs).2.2 (out ++ [(dc ls ks[i] N cs).1]):=by
 rw [List.drop_eq_getElem_cons h,dU]
def mid (v : Int) (vals : List Int) (cs : Cls) : Cls:=cs ++ vals.map (fun k=>([-v,il v k],true))
theorem px (v : Int) (vals : List Int) (cs : Cls) : (mid v vals cs).length = cs.length + vals.length:=by unfold mid;simp
theorem s9 (v : Int) (vals : List Int) : (v :: vals.map (fun k=>-(il v k))).length = vals.length + 1:=by simp
def kV (v : Int) (vals : List Int) : List Int:=v :: vals.map (fun k=>-(il v k))
theorem xC (v : Int) (vals : List Int) (cs : Cls) : oK v vals cs = mid v vals cs ++ [(kV v vals,false)]:=rfl
theorem wI (v : Int) {vals : List Int} {j : Nat} (h : j < vals.length) (cs : Cls) : mid v (vals.take (j + 1)) cs = mid v (vals.take j) cs ++ [([-v,il v vals[j]],true)]:=by
 unfold mid;rw [List.take_succ_eq_append_getElem h,List.map_append];simp
theorem vE (v : Int) {vals : List Int} {j : Nat} (h : j < vals.length) : kV v (vals.take (j + 1)) = kV v (vals.take j) ++ [-(il v vals[j])]:=by
 unfold kV;rw [List.take_succ_eq_append_getElem h,List.map_append];simp
theorem AE {c : List Int} {k : Nat} (h : k < c.length) : (c.map inA).getD k .u = inA c[k]:=by simp [List.getD_eq_getElem?_getD,h]
def aK : Nat→List Nat
 | 0=>[0,1]
 | 1=>[0,3]
 | 2=>[0,3,13]
 | 3=>[0,3]
 | 4=>[0,3,13]
 | 5=>[0,3]
 | 6=>[0,3]
 | 7=>[0,3,5]
 | 8=>[0,3,5,30,31,32]
 | 9=>[0,3,5,30,31,32]
 | 10=>[0,3,5,7,30,31,32]
 | 11=>[0,3,5,30,31,32]
 | 12=>[0,3,5]
 | 13=>[0,3,5]
 | 14=>[0,3,5,8]
 | 15=>[0,5,8]
 | 16=>[0,5,8]
 | 17=>[0,5,8,9]
 | 18=>[0,8,9,69,70,71]
 | 19=>[0,8,9,69,70,71]
 | 20=>[0,8,9,11,69,70,71]
 | 21=>[0,8,9,11,69,70,71]
 | 22=>[0,8,9,11,69,70,71]
 | 23=>[0,8,9,11,69,70,71]
 | 24=>[0,8,9,69,70,71]
 | 25=>[0,9]
 | 26=>[0]
 | _=>[]
set_option maxRecDepth 100000 in
set_option maxHeartbeats 16000000 in
theorem wE (ls : List Ln) (hls : ls.length≤1000000) (hlg : ∀ o ∈ ls,Lg o.t) : ∀ f,OkF f→sn f→∀ (N : Int) (cs : Cls),0≤N→N + tot f≤2000000→cs.length + 2 * tot f≤4000000 →
  AFn Tryz.prog 36 [.loc 20000 0,.agg (foA f)] (mkX N ls cs) (inA (dc ls f N cs).1) (mkX (dc ls f N cs).2.1 ls (dc ls f N cs).2.2):=by
 refine iH fun k l ks hlt0 hlk hoks IH hk N cs hN hNb hcb=>?_
 rw [sn] at hk
 obtain ⟨h4,h4s⟩:=hk
 have hIH:=fun f (hf : f ∈ ks)=>IH f hf (nS h4s f hf)
 have hat:=vK N ls cs l hls hlt0 hlg
 rw [tot] at hNb hcb
 have hE : dc ls (.mk k l ks) N cs = if k = 2 then (atN ls l,N,cs)
  else if k = 4 then (-(jn ls ks N cs).1,(jn ls ks N cs).2)
  else ((dU ls ks N cs []).2.1 + 1,(dU ls ks N cs []).2.1 + 1,oK (if k = 6∨k = 1 then -((dU ls ks N cs []).2.1 + 1) else (dU ls ks N cs []).2.1 + 1) (dU ls ks N cs []).1 (dU ls ks N cs []).2.2):=by rw [dc]
 rw [hE]
 clear hE IH h4s
 obtain ⟨c,t⟩:=l
 rw [ky]
 by_cases k2 : k = 2
 ·rw [if_pos k2]
  subst k2
  clear hIH hlg
  simp only
  generalize atN ls ⟨c,t⟩ = x at *
  refine aD [] Tryz.func36 rfl Tryz.ntmps36 (Nat.le_of_ble_eq_true rfl) (Nat.le_of_ble_eq_true rfl) fun w0 G0 B0 Pr hB0=>?_
  simp only [aO,aA,List.cons_append,List.nil_append]
  repeat' (first | (with_reducible refine hY _ ?_;clear hY Y) | ((with_reducible first | refine an rfl (ar fun K' hK'=>aa ?_) | refine hK' _ (ab fun Y hY=>aa ?_) | refine ab fun Y hY=>aa ?_ | refine ae tk0 aK (ab fun Y hY=>aa ?_) | refine aa ?_ | refine ao ?_);(try clear hK' K');(try dsimp only [aop]);try simp only [go_sem,↓reduceIte,Nat.reduceEqDiff,Nat.reduceLT,Nat.reduceLeDiff,Nat.reduceAdd,Nat.reduceSub,Nat.reduceMul,Nat.reduceBEq,Nat.reduceBNe,Nat.reducePow,Int.reduceToNat,Int.reduceLE,Int.reduceLT,Int.reduceMul,Int.reduceEq,Int.reducePow,Int.reduceAdd,Int.reduceSub,Int.reduceNeg,reduceCtorEq,aK,Tryz.results36]) | (with_reducible first | refine af ?_ | refine ai ?_ | refine aj ?_ | refine ay fun K hK=>?_ | refine ap ?_ | refine aS ?_ | refine bb ?_ | refine al ?_ | refine au ?_) | (with_reducible refine hK _ ?_;clear hK K) | ((with_reducible refine ag ?_ ?_);(· decide)) | (with_reducible refine ah (hat) ?_))
 rw [if_neg k2]
 have k2' : (k = 2) = False:=eq_false k2
 clear hat
 by_cases k4 : k = 4
 ·rw [if_pos k4]
  subst k4
  obtain ⟨f0,r,rfl⟩:=List.exists_cons_of_ne_nil (h4 rfl)
  rw [dJ] at hNb hcb
  have hl:=hIH f0 (by simp) N cs hN (by omega) (by omega)
  rw [show jn ls (f0 :: r) N cs = dc ls f0 N cs from by rw [jn]]
  have hbd:=(iP ls f0 N cs hN).2.2 3000000 (by omega) (by omega)
  generalize dc ls f0 N cs = q at *
  obtain ⟨x,N',cs'⟩:=q
  simp only at hl hbd ⊢
  have hw : IntKind.i64.wrap (0 - x) = -x:=by rw [aY (by omega) (by omega)];omega
  have hw2 : IntKind.i64.wrap (-x) = -x:=aY (by omega) (by omega)
  obtain ⟨k0,⟨c0,t0⟩,ks0⟩:=f0
  have hg0 : ((cD (.mk k0 ⟨c0,t0⟩ ks0 :: r)).drop 0).take 4 = [inA k0,inA c0,.sl (aJ t0) t0.length .none,.sl (cD ks0) ks0.length .none]:=by
   have:=fN (l:=.mk k0 ⟨c0,t0⟩ ks0 :: r) (i:=0) (by simp)
   simpa [foA] using this
  have hg1 : (cD (.mk k0 ⟨c0,t0⟩ ks0 :: r)).take 4 = [inA k0,inA c0,.sl (aJ t0) t0.length .none,.sl (cD ks0) ks0.length .none]:=by simpa using hg0
  have hfl:=dC (.mk k0 ⟨c0,t0⟩ ks0 :: r)
  have hln : ((0 : Int) < (((.mk k0 ⟨c0,t0⟩ ks0 :: r : List Fo).length : Nat) : Int)) = True:=eq_true (by rw [List.length_cons];omega)
  have hl4 : (4≤(.mk k0 ⟨c0,t0⟩ ks0 :: r : List Fo).length * 4) = True:=eq_true (by rw [List.length_cons];omega)
  rw [ky] at hl
  clear hIH h4 hoks hlg
  generalize (.mk k0 ⟨c0,t0⟩ ks0 :: r : List Fo) = KS at *
  refine aD [] Tryz.func36 rfl Tryz.ntmps36 (Nat.le_of_ble_eq_true rfl) (Nat.le_of_ble_eq_true rfl) fun w0 G0 B0 Pr hB0=>?_
  simp only [aO,aA,List.cons_append,List.nil_append]
  repeat' (first | (with_reducible refine hY _ ?_;clear hY Y) | ((with_reducible first | refine an rfl (ar fun K' hK'=>aa ?_) | refine hK' _ (ab fun Y hY=>aa ?_) | refine ab fun Y hY=>aa ?_ | refine ae tk0 aK (ab fun Y hY=>aa ?_) | refine aa ?_ | refine ao ?_);(try clear hK' K');(try dsimp only [aop]);try simp only [go_sem,↓reduceIte,Nat.reduceEqDiff,Nat.reduceLT,Nat.reduceLeDiff,Nat.reduceAdd,Nat.reduceSub,Nat.reduceMul,Nat.reduceBEq,Nat.reduceBNe,Nat.reducePow,Int.reduceToNat,Int.reduceLE,Int.reduceLT,Int.reduceMul,Int.reduceEq,Int.reducePow,Int.reduceAdd,Int.reduceSub,Int.reduceNeg,reduceCtorEq,aK,Tryz.results36,hg0,hg1,hfl,hln,hl4,hw,hw2]) | (with_reducible first | refine af ?_ | refine ai ?_ | refine aj ?_ | refine ay fun K hK=>?_ | refine ap ?_ | refine aq ?_ | refine aS ?_ | refine bb ?_ | refine al ?_ | refine au ?_) | (with_reducible refine hK _ ?_;clear hK K) | ((with_reducible refine ag ?_ ?_);(· decide)) | (with_reducible refine ah (hl) ?_))
 rw [if_neg k4]
 have k4' : (k = 4) = False:=eq_false k4
 unfold Lg at hlk
 obtain ⟨B1,B2,B3,B4⟩:=l8 ls ks N cs [] hN
 have hval:=B4 3000000 (by omega) (by omega) (fun x hx=>absurd hx List.not_mem_nil)
 have h0 : dU ls (ks.drop 0) N cs [] = dU ls ks N cs []:=by rw [List.drop_zero]
 have hb0 : N + dJ (ks.drop 0)≤2000000:=by rw [List.drop_zero];omega
 have hb1 : cs.length + 2 * dJ (ks.drop 0)≤4000000:=by rw [List.drop_zero];omega
 rw [List.length_nil,Nat.zero_add] at B3
 generalize dU ls ks N cs [] = R at *
 obtain ⟨vals,M,ds⟩:=R
 simp only at B1 B2 B3 hval ⊢
 refine aD [] Tryz.func36 rfl Tryz.ntmps36 (Nat.le_of_ble_eq_true rfl) (Nat.le_of_ble_eq_true rfl) fun w0 G0 B0 Pr hB0=>?_
 simp only [aO,aA,List.cons_append,List.nil_append]
 repeat' (first | (with_reducible refine hY _ ?_;clear hY Y) | ((with_reducible first | refine an rfl (ar fun K' hK'=>aa ?_) | refine hK' _ (ab fun Y hY=>aa ?_) | refine ab fun Y hY=>aa ?_ | refine ae tk0 aK (ab fun Y hY=>aa ?_));(try clear hK' K');(try dsimp only [aop]);try simp only [go_sem,↓reduceIte,Nat.reduceEqDiff,Nat.reduceLT,Nat.reduceLeDiff,Nat.reduceAdd,Nat.reduceSub,Nat.reduceMul,Nat.reduceBEq,Nat.reduceBNe,Nat.reducePow,Int.reduceToNat,Int.reduceLE,Int.reduceLT,Int.reduceMul,Int.reduceEq,Int.reducePow,Int.reduceAdd,Int.reduceSub,Int.reduceNeg,reduceCtorEq,aK,Tryz.results36,k2',k4']) | (with_reducible first | refine af ?_ | refine ai ?_ | refine aj ?_ | refine ay fun K hK=>?_ | refine aq ?_ | refine aU ?_ | refine al ?_ | refine av ?_ | refine bG ?_) | (with_reducible refine hK _ ?_;clear hK K) | ((with_reducible refine ag ?_ ?_);(· decide)))
 refine eu (gp (b:=10041) (t:=5) 3 (by decide) (by decide) rfl rfl) ?_
 refine bK (α:=Nat × Int × Cls × List Int) (fun a=>[(0,.loc 20000 0),(3,.loc 10003 0),(5,.sl (a.2.2.2.map inA) a.2.2.2.length (.tok 10041)),(30,.sl (cD ks) ks.length .none),(31,inA (ks.length : Int)),(32,inA (a.1 : Int)),(10003,.bc (Au k c t ks) 27),(10041,.bt a.2.2.2.length 3),(20000,mkB a.2.1 ls a.2.2.1),(20001,.bt ls.length 24),(20002,.bt a.2.2.1.length 41)])
  (fun a=>a.1≤ks.length∧(0≤a.2.1∧a.2.1 + dJ (ks.drop a.1)≤2000000∧a.2.2.1.length + 2 * dJ (ks.drop a.1)≤4000000∧a.2.2.2.length = a.1)∧dU ls (ks.drop a.1) a.2.1 a.2.2.1 a.2.2.2 = (vals,M,ds)) (fun a=>ks.length - a.1) (0,N,cs,[]) [0,3,5,30,31,32] ?_ ⟨Nat.zero_le _,⟨hN,hb0,hb1,rfl⟩,h0⟩ ?_
 ·simp only [go_sem,↓reduceIte,Nat.reduceEqDiff,Nat.reduceLT,Nat.reduceLeDiff,Nat.reduceAdd,Nat.reduceSub,Nat.reduceMul,Nat.reduceBEq,Nat.reduceBNe,Nat.reducePow,Int.reduceToNat,Int.reduceLE,Int.reduceLT,Int.reduceMul,Int.reduceEq,Int.reducePow,Int.reduceAdd,Int.reduceSub,Int.reduceNeg,reduceCtorEq] <;> rfl
 clear h0 hb0 hb1
 rintro ⟨i,N2,c2,v2⟩ ⟨hi,⟨p1,p2,p3,p4⟩,hR⟩ ih
 simp only at hi p1 p2 p3 p4 hR ih ⊢
 by_cases hlt : i < ks.length
 ·have hlt' : ((i : Int) < (ks.length : Int)) = True:=eq_true (by omega)
  have hkw:=cf (n:=i) (by omega)
  have hg0:=fN hlt
  have hfl:=dC ks
  rw [uK ls hlt] at hR
  rw [List.drop_eq_getElem_cons hlt,dJ] at p2 p3
  have hc:=hIH ks[i] (List.getElem_mem hlt) N2 c2 p1 (by omega) (by omega)
  obtain ⟨g1,g2,g3⟩:=iP ls ks[i] N2 c2 p1
  have hvl : (v2.map inA).length = v2.length:=List.length_map ..
  have hvb : v2.length≤4000000:=by have:=jO ks;omega
  have ih':=ih (i + 1,(dc ls ks[i] N2 c2).2.1,(dc ls ks[i] N2 c2).2.2,v2 ++ [(dc ls ks[i] N2 c2).1]) ⟨by simp only;omega,⟨g1.1,by simp only;omega,by simp only;omega,by simp only [List.length_append,List.length_cons,List.length_nil];omega⟩,hR⟩ (by simp only;omega)
  simp only [List.map_append,List.map_cons,List.map_nil,List.length_append,List.length_cons,List.length_nil] at ih'
  clear ih hR hIH hlg hval B1 B2 B3 B4 g1 g2 g3
  generalize dc ls ks[i] N2 c2 = q at *
  obtain ⟨x,N3,c3⟩:=q
  simp only at hc ih'
  generalize ks[i] = f at *
  obtain ⟨fk,⟨fc,ft⟩,fks⟩:=f
  rw [ky] at hg0 hc
  generalize v2.map inA = V at *
  repeat' (first | (with_reducible refine hY _ ?_;clear hY Y) | ((with_reducible first | refine an rfl (ar fun K' hK'=>aa ?_) | refine hK' _ (ab fun Y hY=>aa ?_) | refine ab fun Y hY=>aa ?_ | refine ae tk0 aK (ab fun Y hY=>aa ?_) | refine aa ?_);(try clear hK' K');(try dsimp only [aop]);try simp only [go_sem,↓reduceIte,Nat.reduceEqDiff,Nat.reduceLT,Nat.reduceLeDiff,Nat.reduceAdd,Nat.reduceSub,Nat.reduceMul,Nat.reduceBEq,Nat.reduceBNe,Nat.reducePow,Int.reduceToNat,Int.reduceLE,Int.reduceLT,Int.reduceMul,Int.reduceEq,Int.reducePow,Int.reduceAdd,Int.reduceSub,Int.reduceNeg,reduceCtorEq,aK,Tryz.results36,hlt',hkw,hg0,hfl,hvl]) | (with_reducible first | refine af ?_ | refine ai ?_ | refine aj ?_ | refine ay fun K hK=>?_ | refine ap ?_ | refine aU ?_ | refine al ?_ | refine av ?_) | (with_reducible refine hK _ ?_;clear hK K) | ((with_reducible refine ag ?_ ?_);(· decide)) | (with_reducible refine bp ?_ ?_;(· (try and_intros) <;> first | omega | assumption | (simp only [List.length_append,List.length_map,List.length_cons,List.length_nil] <;> omega))) | (with_reducible refine ah (hc) ?_))
  refine bi [0,3,5,30,31,32] (by simp only [go_sem,↓reduceIte,Nat.reduceEqDiff,Nat.reduceLT,Nat.reduceLeDiff,Nat.reduceAdd,Nat.reduceSub,Nat.reduceMul,Nat.reduceBEq,Nat.reduceBNe,Nat.reducePow,Int.reduceToNat,Int.reduceLE,Int.reduceLT,Int.reduceMul,Int.reduceEq,Int.reducePow,Int.reduceAdd,Int.reduceSub,Int.reduceNeg,reduceCtorEq];exact rfl) ?_
  exact ih'
 have hlt' : ((i : Int) < (ks.length : Int)) = False:=eq_false (by omega)
 obtain ⟨rfl,rfl,rfl⟩ : v2 = vals∧N2 = M∧c2 = ds:=by
  rw [List.drop_eq_nil_of_le (by omega),dU] at hR
  simpa using hR
 clear ih hR hIH B4
 obtain rfl : i = ks.length:=by omega
 have hM1 : IntKind.i64.wrap (N2 + 1) = N2 + 1:=aY (by omega) (by omega)
 have hM2 : IntKind.i64.wrap (0 - (N2 + 1)) = -(N2 + 1):=by rw [aY (by omega) (by omega)];omega
 have hM3 : IntKind.i64.wrap (-(N2 + 1)) = -(N2 + 1):=aY (by omega) (by omega)
 obtain ⟨v,hv⟩ : ∃ v,v = if k = 6∨k = 1 then -(N2 + 1) else N2 + 1:=⟨_,rfl⟩
 have hvb : -3000000≤v∧v≤3000000:=by rw [hv];split <;> omega
 have hv1 : (k = 6∨k = 1)→v = -(N2 + 1):=fun h=>by rw [hv,if_pos h]
 have hv2 : ¬ (k = 6∨k = 1)→v = N2 + 1:=fun h=>by rw [hv,if_neg h]
 rw [← hv]
 clear hv
 apply kW (α:=Unit) (fun _=>[(0,.loc 20000 0),(5,.sl (v2.map inA) v2.length (.tok 10041)),(8,inA v),(10041,.bt v2.length 3),(20000,mkB (N2 + 1) ls c2),(20001,.bt ls.length 24),(20002,.bt c2.length 41)]) (fun _=>True)
 case use =>
  intro key
  by_cases k6 : k = 6
  ·have hv':=hv1 (.inl k6)
   repeat' (first | (with_reducible refine hY _ ?_;clear hY Y) | ((with_reducible first | refine an rfl (ar fun K' hK'=>aa ?_) | refine hK' _ (ab fun Y hY=>aa ?_) | refine bl rfl (ab fun Y hY=>aa ?_) | refine ab fun Y hY=>aa ?_ | refine aa ?_);(try clear hK' K');(try dsimp only [aop]);try simp only [go_sem,↓reduceIte,Nat.reduceEqDiff,Nat.reduceLT,Nat.reduceLeDiff,Nat.reduceAdd,Nat.reduceSub,Nat.reduceMul,Nat.reduceBEq,Nat.reduceBNe,Nat.reducePow,Int.reduceToNat,Int.reduceLE,Int.reduceLT,Int.reduceMul,Int.reduceEq,Int.reducePow,Int.reduceAdd,Int.reduceSub,Int.reduceNeg,reduceCtorEq,aK,Tryz.results36,hlt',k6,hM1,hM2,hM3]) | (with_reducible first | refine af ?_ | refine bh rfl ?_ | refine cS ?_ ?_ | refine ai ?_ | refine ay fun K hK=>?_ | refine ap ?_ | refine aq ?_ | refine bC ?_ | refine bg ?_ | refine bf ?_) | ((with_reducible refine cq 16 ?_ ?_);(· rfl)) | ((with_reducible refine bD 16 tk0 aK ?_ (ab fun Y hY=>aa ?_));(· rfl);(try dsimp only [aop]);try simp only [go_sem,↓reduceIte,Nat.reduceEqDiff,Nat.reduceLT,Nat.reduceLeDiff,Nat.reduceAdd,Nat.reduceSub,Nat.reduceMul,Nat.reduceBEq,Nat.reduceBNe,Nat.reducePow,Int.reduceToNat,Int.reduceLE,Int.reduceLT,Int.reduceMul,Int.reduceEq,Int.reducePow,Int.reduceAdd,Int.reduceSub,Int.reduceNeg,reduceCtorEq,aK,Tryz.results36,hlt',k6,hM1,hM2,hM3]) | (with_reducible refine hK _ ?_;clear hK K) | ((with_reducible first | refine aG ?_ ?_ | refine ag ?_ ?_);(· decide)))
   exact bL (L:=[0,5,8]) (by simp only [go_sem,↓reduceIte,Nat.reduceEqDiff,Nat.reduceLT,Nat.reduceLeDiff,Nat.reduceAdd,Nat.reduceSub,Nat.reduceMul,Nat.reduceBEq,Nat.reduceBNe,Nat.reducePow,Int.reduceToNat,Int.reduceLE,Int.reduceLT,Int.reduceMul,Int.reduceEq,Int.reducePow,Int.reduceAdd,Int.reduceSub,Int.reduceNeg,reduceCtorEq,hv'];try exact rfl) (key () trivial)
  ·have k6' : (k = 6) = False:=eq_false k6
   by_cases k1 : k = 1
   ·have hv':=hv1 (.inr k1)
    repeat' (first | (with_reducible refine hY _ ?_;clear hY Y) | ((with_reducible first | refine an rfl (ar fun K' hK'=>aa ?_) | refine hK' _ (ab fun Y hY=>aa ?_) | refine bl rfl (ab fun Y hY=>aa ?_) | refine ab fun Y hY=>aa ?_ | refine ar fun K' hK'=>aa ?_);(try clear hK' K');(try dsimp only [aop]);try simp only [go_sem,↓reduceIte,Nat.reduceEqDiff,Nat.reduceLT,Nat.reduceLeDiff,Nat.reduceAdd,Nat.reduceSub,Nat.reduceMul,Nat.reduceBEq,Nat.reduceBNe,Nat.reducePow,Int.reduceToNat,Int.reduceLE,Int.reduceLT,Int.reduceMul,Int.reduceEq,Int.reducePow,Int.reduceAdd,Int.reduceSub,Int.reduceNeg,reduceCtorEq,aK,Tryz.results36,hlt',k1,hM1,hM2,hM3]) | (with_reducible first | refine af ?_ | refine aL ?_ | refine ai ?_ | refine ay fun K hK=>?_ | refine ap ?_ | refine aq ?_ | refine bC ?_ | refine bg ?_ | refine bf ?_) | ((with_reducible refine cq 16 ?_ ?_);(· rfl)) | ((with_reducible refine bD 16 tk0 aK ?_ (ab fun Y hY=>aa ?_));(· rfl);(try dsimp only [aop]);try simp only [go_sem,↓reduceIte,Nat.reduceEqDiff,Nat.reduceLT,Nat.reduceLeDiff,Nat.reduceAdd,Nat.reduceSub,Nat.reduceMul,Nat.reduceBEq,Nat.reduceBNe,Nat.reducePow,Int.reduceToNat,Int.reduceLE,Int.reduceLT,Int.reduceMul,Int.reduceEq,Int.reducePow,Int.reduceAdd,Int.reduceSub,Int.reduceNeg,reduceCtorEq,aK,Tryz.results36,hlt',k1,hM1,hM2,hM3]) | (with_reducible refine hK _ ?_;clear hK K) | ((with_reducible first | refine aG ?_ ?_ | refine ag ?_ ?_);(· decide)))
    exact bL (L:=[0,5,8]) (by simp only [go_sem,↓reduceIte,Nat.reduceEqDiff,Nat.reduceLT,Nat.reduceLeDiff,Nat.reduceAdd,Nat.reduceSub,Nat.reduceMul,Nat.reduceBEq,Nat.reduceBNe,Nat.reducePow,Int.reduceToNat,Int.reduceLE,Int.reduceLT,Int.reduceMul,Int.reduceEq,Int.reducePow,Int.reduceAdd,Int.reduceSub,Int.reduceNeg,reduceCtorEq,hv'];try exact rfl) (key () trivial)
   ·have k1' : (k = 1) = False:=eq_false k1
    have hv':=hv2 (fun h=>h.elim k6 k1)
    repeat' (first | (with_reducible refine hY _ ?_;clear hY Y) | ((with_reducible first | refine an rfl (ar fun K' hK'=>aa ?_) | refine hK' _ (ab fun Y hY=>aa ?_) | refine bl rfl (ab fun Y hY=>aa ?_) | refine ab fun Y hY=>aa ?_ | refine ar fun K' hK'=>aa ?_);(try clear hK' K');(try dsimp only [aop]);try simp only [go_sem,↓reduceIte,Nat.reduceEqDiff,Nat.reduceLT,Nat.reduceLeDiff,Nat.reduceAdd,Nat.reduceSub,Nat.reduceMul,Nat.reduceBEq,Nat.reduceBNe,Nat.reducePow,Int.reduceToNat,Int.reduceLE,Int.reduceLT,Int.reduceMul,Int.reduceEq,Int.reducePow,Int.reduceAdd,Int.reduceSub,Int.reduceNeg,reduceCtorEq,aK,Tryz.results36,hlt',k6',k1',hM1,hM2,hM3]) | (with_reducible first | refine af ?_ | refine aL ?_ | refine ai ?_ | refine ay fun K hK=>?_ | refine aq ?_ | refine bC ?_ | refine bg ?_ | refine av ?_ | refine bf ?_) | ((with_reducible refine cq 16 ?_ ?_);(· rfl)) | ((with_reducible refine bD 16 tk0 aK ?_ (ab fun Y hY=>aa ?_));(· rfl);(try dsimp only [aop]);try simp only [go_sem,↓reduceIte,Nat.reduceEqDiff,Nat.reduceLT,Nat.reduceLeDiff,Nat.reduceAdd,Nat.reduceSub,Nat.reduceMul,Nat.reduceBEq,Nat.reduceBNe,Nat.reducePow,Int.reduceToNat,Int.reduceLE,Int.reduceLT,Int.reduceMul,Int.reduceEq,Int.reducePow,Int.reduceAdd,Int.reduceSub,Int.reduceNeg,reduceCtorEq,aK,Tryz.results36,hlt',k6',k1',hM1,hM2,hM3]) | (with_reducible refine hK _ ?_;clear hK K) | ((with_reducible first | refine aG ?_ ?_ | refine ag ?_ ?_);(· decide)))
    exact bL (L:=[0,5,8]) (by simp only [go_sem,↓reduceIte,Nat.reduceEqDiff,Nat.reduceLT,Nat.reduceLeDiff,Nat.reduceAdd,Nat.reduceSub,Nat.reduceMul,Nat.reduceBEq,Nat.reduceBNe,Nat.reducePow,Int.reduceToNat,Int.reduceLE,Int.reduceLT,Int.reduceMul,Int.reduceEq,Int.reducePow,Int.reduceAdd,Int.reduceSub,Int.reduceNeg,reduceCtorEq,hv'];try exact rfl) (key () trivial)
 case key =>
 rintro _ _
 clear hM1 hM2 hM3 hv1 hv2
 have hwv : IntKind.i64.wrap (0 - v) = -v:=by rw [aY (by omega) (by omega)];omega
 have hwv2 : IntKind.i64.wrap (-v) = -v:=aY (by omega) (by omega)
 repeat' (first | (with_reducible refine hY _ ?_;clear hY Y) | ((with_reducible first | refine an rfl (ar fun K' hK'=>aa ?_) | refine hK' _ (ab fun Y hY=>aa ?_) | refine ae tk0 aK (ab fun Y hY=>aa ?_));(try clear hK' K');(try dsimp only [aop]);try simp only [go_sem,↓reduceIte,Nat.reduceEqDiff,Nat.reduceLT,Nat.reduceLeDiff,Nat.reduceAdd,Nat.reduceSub,Nat.reduceMul,Nat.reduceBEq,Nat.reduceBNe,Nat.reducePow,Int.reduceToNat,Int.reduceLE,Int.reduceLT,Int.reduceMul,Int.reduceEq,Int.reducePow,Int.reduceAdd,Int.reduceSub,Int.reduceNeg,reduceCtorEq,aK,Tryz.results36]) | (with_reducible first | refine af ?_ | refine ai ?_ | refine aj ?_ | refine ay fun K hK=>?_ | refine al ?_ | refine bG ?_) | (with_reducible refine hK _ ?_;clear hK K))
 refine eu (gp (b:=10098) (t:=9) 3 (by decide) (by decide) rfl rfl) ?_
 refine bK (α:=Nat) (fun j=>[(0,.loc 20000 0),(8,inA v),(9,.sl ((kV v (v2.take j)).map inA) (j + 1) (.tok 10098)),(69,.sl (v2.map inA) v2.length (.tok 10041)),(70,inA (v2.length : Int)),(71,inA (j : Int)),(10041,.bt v2.length 3),(10098,.bt (j + 1) 3),(20000,.bc [inA (N2 + 1),.sl (ls.flatMap lnA) ls.length (.tok 20001),.sl ((mid v (v2.take j) c2).map et) (c2.length + j) (.tok 20002),.c (.bool false)] 88),(20001,.bt ls.length 24),(20002,.bt (c2.length + j) 41)])
  (fun j=>j≤v2.length) (fun j=>v2.length - j) 0 [0,8,9,69,70,71] ?_ (Nat.zero_le _) ?_
 ·simp only [go_sem,↓reduceIte,Nat.reduceEqDiff,Nat.reduceLT,Nat.reduceLeDiff,Nat.reduceAdd,Nat.reduceSub,Nat.reduceMul,Nat.reduceBEq,Nat.reduceBNe,Nat.reducePow,Int.reduceToNat,Int.reduceLE,Int.reduceLT,Int.reduceMul,Int.reduceEq,Int.reducePow,Int.reduceAdd,Int.reduceSub,Int.reduceNeg,reduceCtorEq,List.take_zero,mid,kV,List.map_nil,List.append_nil,Nat.add_zero,Nat.zero_add] <;> rfl
 intro j hj ih
 by_cases hjl : j < v2.length
 ·have hjl' : ((j : Int) < (v2.length : Int)) = True:=eq_true (by omega)
  have hkw:=cf (n:=j) (by omega)
  have hg0:=AE hjl
  have hvl : (v2.map inA).length = v2.length:=List.length_map ..
  have hx:=hval _ (List.getElem_mem hjl)
  have ih':=ih (j + 1) (by omega) (by omega)
  rw [wI v hjl,vE v hjl] at ih'
  have hml : ((mid v (v2.take j) c2).map et).length = c2.length + j:=by rw [List.length_map,px,List.length_take];omega
  have hal : ((kV v (v2.take j)).map inA).length = j + 1:=by rw [List.length_map];show (v :: (v2.take j).map (fun k=>-(il v k))).length = j + 1;rw [s9,List.length_take];omega
  simp only [List.map_append,List.map_cons,List.map_nil] at ih'
  clear ih hval hlg
  generalize v2[j] = x at *
  have hwx : IntKind.i64.wrap (0 - x) = -x:=by rw [aY (by omega) (by omega)];omega
  have hwx2 : IntKind.i64.wrap (-x) = -x:=aY (by omega) (by omega)
  generalize (mid v (v2.take j) c2).map et = CS at *
  generalize (kV v (v2.take j)).map inA = AL at *
  by_cases hvn : v < 0
  ·have hvn' : (v < 0) = True:=eq_true hvn
   have hwy : IntKind.i64.wrap (0 - -x) = - -x:=by rw [aY (by omega) (by omega)];omega
   have hwy2 : IntKind.i64.wrap (- -x) = - -x:=by rw [aY (by omega) (by omega)]
   have hwy3 : IntKind.i64.wrap x = x:=aY (by omega) (by omega)
   rw [show il v x = -x from if_pos hvn] at ih'
   repeat' (first | (with_reducible refine hY _ ?_;clear hY Y) | ((with_reducible first | refine an rfl (ar fun K' hK'=>aa ?_) | refine hK' _ (ab fun Y hY=>aa ?_) | refine ab fun Y hY=>aa ?_ | refine ae tk0 aK (ab fun Y hY=>aa ?_));(try clear hK' K');(try dsimp only [aop]);try simp only [go_sem,↓reduceIte,Nat.reduceEqDiff,Nat.reduceLT,Nat.reduceLeDiff,Nat.reduceAdd,Nat.reduceSub,Nat.reduceMul,Nat.reduceBEq,Nat.reduceBNe,Nat.reducePow,Int.reduceToNat,Int.reduceLE,Int.reduceLT,Int.reduceMul,Int.reduceEq,Int.reducePow,Int.reduceAdd,Int.reduceSub,Int.reduceNeg,reduceCtorEq,aK,Tryz.results36,hjl',hkw,hg0,hvl,hvn',hwx,hwx2,hwv,hwv2,hwy,hwy2,hwy3,hml,hal]) | (with_reducible first | refine af ?_ | refine ai ?_ | refine aj ?_ | refine ay fun K hK=>?_ | refine ap ?_ | refine aU ?_ | refine al ?_ | refine av ?_) | (with_reducible refine hK _ ?_;clear hK K) | ((with_reducible refine ag ?_ ?_);(· decide)) | (with_reducible refine bp ?_ ?_;(· (try and_intros) <;> first | omega | assumption | (simp only [List.length_append,List.length_map,List.length_cons,List.length_nil] <;> omega))))
   refine bi [0,8,9,69,70,71] (by simp only [go_sem,↓reduceIte,Nat.reduceEqDiff,Nat.reduceLT,Nat.reduceLeDiff,Nat.reduceAdd,Nat.reduceSub,Nat.reduceMul,Nat.reduceBEq,Nat.reduceBNe,Nat.reducePow,Int.reduceToNat,Int.reduceLE,Int.reduceLT,Int.reduceMul,Int.reduceEq,Int.reducePow,Int.reduceAdd,Int.reduceSub,Int.reduceNeg,reduceCtorEq];exact rfl) ?_
   refine gY ih' ?_
   simp [Nat.add_assoc]
  ·have hvn' : (v < 0) = False:=eq_false hvn
   rw [show il v x = x from if_neg hvn] at ih'
   repeat' (first | (with_reducible refine hY _ ?_;clear hY Y) | ((with_reducible first | refine an rfl (ar fun K' hK'=>aa ?_) | refine hK' _ (ab fun Y hY=>aa ?_) | refine ab fun Y hY=>aa ?_ | refine ae tk0 aK (ab fun Y hY=>aa ?_));(try clear hK' K');(try dsimp only [aop]);try simp only [go_sem,↓reduceIte,Nat.reduceEqDiff,Nat.reduceLT,Nat.reduceLeDiff,Nat.reduceAdd,Nat.reduceSub,Nat.reduceMul,Nat.reduceBEq,Nat.reduceBNe,Nat.reducePow,Int.reduceToNat,Int.reduceLE,Int.reduceLT,Int.reduceMul,Int.reduceEq,Int.reducePow,Int.reduceAdd,Int.reduceSub,Int.reduceNeg,reduceCtorEq,aK,Tryz.results36,hjl',hkw,hg0,hvl,hvn',hwx,hwx2,hwv,hwv2,hml,hal]) | (with_reducible first | refine af ?_ | refine ai ?_ | refine aj ?_ | refine ay fun K hK=>?_ | refine ap ?_ | refine aq ?_ | refine aU ?_ | refine al ?_ | refine av ?_) | (with_reducible refine hK _ ?_;clear hK K) | ((with_reducible refine ag ?_ ?_);(· decide)) | (with_reducible refine bp ?_ ?_;(· (try and_intros) <;> first | omega | assumption | (simp only [List.length_append,List.length_map,List.length_cons,List.length_nil] <;> omega))))
   refine bi [0,8,9,69,70,71] (by simp only [go_sem,↓reduceIte,Nat.reduceEqDiff,Nat.reduceLT,Nat.reduceLeDiff,Nat.reduceAdd,Nat.reduceSub,Nat.reduceMul,Nat.reduceBEq,Nat.reduceBNe,Nat.reducePow,Int.reduceToNat,Int.reduceLE,Int.reduceLT,Int.reduceMul,Int.reduceEq,Int.reducePow,Int.reduceAdd,Int.reduceSub,Int.reduceNeg,reduceCtorEq];exact rfl) ?_
   refine gY ih' ?_
   simp [Nat.add_assoc]
 ·have hjl' : ((j : Int) < (v2.length : Int)) = False:=eq_false (by omega)
  obtain rfl : j = v2.length:=by omega
  rw [List.take_of_length_le (Nat.le_refl _),xC]
  have hml : ((mid v v2 c2).map et).length = c2.length + v2.length:=by rw [List.length_map,px]
  have hml2 : (mid v v2 c2).length = c2.length + v2.length:=px ..
  have hal2 : (kV v v2).length = v2.length + 1:=by unfold kV;exact s9 ..
  have e1 : mkX (N2 + 1) ls (mid v v2 c2 ++ [(kV v v2,false)]) = [.bc [inA (N2 + 1),.sl (ls.flatMap lnA) ls.length (.tok 20001),.sl ((mid v v2 c2).map et ++ [.sl ((kV v v2).map inA) (v2.length + 1) .none]) (c2.length + v2.length + 1) (.tok 20002),.c (.bool false)] 88,.bt ls.length 24,.bt (c2.length + v2.length + 1) 41]:=by
   simp [mkX,mkB,et,hml2,hal2]
  rw [e1]
  clear ih hval hlg e1 hml2 hal2
  generalize (mid v v2 c2).map et = CS at *
  generalize (kV v v2).map inA = AL at *
  repeat' (first | (with_reducible refine hY _ ?_;clear hY Y) | ((with_reducible first | refine an rfl (ar fun K' hK'=>aa ?_) | refine hK' _ (ab fun Y hY=>aa ?_) | refine ab fun Y hY=>aa ?_ | refine ae tk0 aK (ab fun Y hY=>aa ?_) | refine aa ?_ | refine ao ?_);(try clear hK' K');(try dsimp only [aop]);try simp only [go_sem,↓reduceIte,Nat.reduceEqDiff,Nat.reduceLT,Nat.reduceLeDiff,Nat.reduceAdd,Nat.reduceSub,Nat.reduceMul,Nat.reduceBEq,Nat.reduceBNe,Nat.reducePow,Int.reduceToNat,Int.reduceLE,Int.reduceLT,Int.reduceMul,Int.reduceEq,Int.reducePow,Int.reduceAdd,Int.reduceSub,Int.reduceNeg,reduceCtorEq,aK,Tryz.results36,hjl',hml]) | (with_reducible first | refine af ?_ | refine ai ?_ | refine aj ?_ | refine ay fun K hK=>?_ | refine aq ?_ | refine bC ?_ | refine bg ?_ | refine au ?_ | refine bf ?_) | (with_reducible refine hK _ ?_;clear hK K) | ((with_reducible refine ag ?_ ?_);(· decide)) | (with_reducible refine bp ?_ ?_;(· (try and_intros) <;> first | omega | assumption | (simp only [List.length_append,List.length_map,List.length_cons,List.length_nil] <;> omega))))
end Go.Proofs.YtmpdocplcgbpkaaGreatDoor
