/- cnf.Make in K, of whatever formula. Clauses refuted, a certificate checked: plain. cnf.Make in K, of a formula whose clauses can be made: the row of clauses may grow. -/
import Derived.Test.YtmpdocplcgbpkaaGreatDoorZ21
import Derived.Test.YtmpdocplcgbpkaaGreatDoorZ22
import Derived.Test.YtmpdocplcgbpkaaGreatDoorZ7
import Derived.Test.YtmpdocplcgbpkaaGreatDoorZ12
namespace Go.Proofs.YtmpdocplcgbpkaaGreatDoor
set_option linter.unusedSimpArgs false
set_option linter.unusedVariables false
open Go.RowKit
theorem oS (n : Int) (cs : List (List Int)) : c4 n cs = 0∨c4 n cs = 1∨c4 n cs = 2∨c4 n cs = 5:=by
 unfold c4
 repeat' split
 all_goals simp
def dF (f : Fo) : Nat × Int × List Ln × List (List Int) :=
 if isN f = false then (5,0,[],[])
 else if 8192 < (dc (c8 f []) f ((c8 f []).length : Int) []).2.1∨c4 (dc (c8 f []) f ((c8 f []).length : Int) []).2.1 (((dc (c8 f []) f ((c8 f []).length : Int) []).2.2 ++ [([(dc (c8 f []) f ((c8 f []).length : Int) []).1],true)]).map (·.1)) ≠ 0 then (2,0,[],[])
 else (0,(dc (c8 f []) f ((c8 f []).length : Int) []).2.1,c8 f [],((dc (c8 f []) f ((c8 f []).length : Int) []).2.2 ++ [([(dc (c8 f []) f ((c8 f []).length : Int) []).1],true)]).map (·.1))
def qP (q : Nat × Int × List Ln × List (List Int)) : AV:=.tup [.agg [inA q.2.1,gB q.2.2.1,csA q.2.2.2],b9 q.1]
theorem zn (c : List Int × Bool) (k : Nat) : wkD (k + 1) (et c) = dr c.1:=by
 obtain ⟨c,b⟩:=c
 have h : (c.map inA).map (wkD k) = c.map inA:=by
  rw [List.map_map]
  exact List.map_congr_left fun x _=>by cases k <;> rfl
 cases b
 ·show AV.sl ((c.map inA).map (wkD k)) c.length .none = _
  rw [h]
 ·show AV.sl ((c.map inA).map (wkD k)) c.length .none = _
  rw [h]
theorem kK (cs : Cls) (k : Nat) : (cs.map et).map (wkD (k + 1)) = (cs.map (·.1)).map dr:=by
 rw [List.map_map,List.map_map]
 exact List.map_congr_left fun c _=>zn c k
theorem sA : ∀ (ls : List Ln) (k : Nat),(ls.flatMap lnA).map (wkD (k + 1)) = ls.flatMap lnA
 | [],k=>rfl
 | l :: r,k=>by
  rw [List.flatMap_cons,List.map_append,sA r k]
  simp [wkD,ja]
mutual
theorem kz : ∀ (f : Fo) (d z : Int) (ls : List Ln),0≤eI f d z→(∀ o ∈ ls,cY o = true)→∀ o ∈ c8 f ls,cY o = true
 | .mk k l ks,d,z,ls,h,hl=>by
  rw [eI] at h
  split at h
  ·rename_i hc
   rw [c8]
   refine qk ks (d - 1) (z - 1) _ h fun o ho=>?_
   unfold j5 at ho
   split at ho
   ·rename_i h2
    rcases List.mem_append.1 ho with ho | ho
    ·exact hl o ho
    ·rw [List.mem_singleton] at ho
     subst ho
     have hw:=hc.1
     unfold okW at hw
     rw [h2.1] at hw
     simp only [show ¬ ((2 : Int) = 0∨(2 : Int) = 1) by decide,if_false,if_true,Bool.and_eq_true] at hw
     have:=hw.1
     unfold mn at this
     simp only [Bool.and_eq_true] at this
     exact this.1
   ·exact hl o ho
  ·omega
theorem qk : ∀ (l : List Fo) (d z : Int) (ls : List Ln),0≤eJ l d z→(∀ o ∈ ls,cY o = true)→∀ o ∈ g5 l ls,cY o = true
 | [],d,z,ls,h,hl=>by rw [g5];exact hl
 | f :: r,d,z,ls,h,hl=>by
  rw [eJ] at h
  split at h
  ·obtain ⟨h1,_⟩:=jP r d (eI f d z) h
   rw [g5]
   exact qk r d _ _ h (kz f d z ls (by omega) hl)
  ·omega
end
theorem xB {B : Nat} {v : Int} {vals : List Int} {cs : Cls} (h2 : 2≤B) (hv : vals.length + 1≤B) (h : ∀ c ∈ cs,c.1.length≤B) : ∀ c ∈ oK v vals cs,c.1.length≤B:=fun c hc=>by
 unfold oK at hc
 rcases List.mem_append.1 hc with hc | hc
 ·rcases List.mem_append.1 hc with hc | hc
  ·exact h c hc
  ·obtain ⟨k,_,rfl⟩:=List.mem_map.1 hc
   simpa using h2
 ·rw [List.mem_singleton] at hc
  subst hc
  simpa using hv
mutual
theorem l7 (ls : List Ln) (B : Nat) : ∀ (f : Fo) (N : Int) (cs : Cls),0≤N→tot f + 2≤B→(∀ c ∈ cs,c.1.length≤B)→∀ c ∈ (dc ls f N cs).2.2,c.1.length≤B
 | .mk k l ks,N,cs,hN,hB,h=>by
  rw [tot] at hB
  rw [dc]
  split
  ·exact h
  ·split
   ·exact yN ls B ks N cs hN (by omega) h
   ·have hl:=(l8 ls ks N cs [] hN).2.2.1
    have ht:=jO ks
    rw [List.length_nil] at hl
    exact xB (by omega) (by omega) (tB ls B ks N cs [] hN (by omega) h)
theorem yN (ls : List Ln) (B : Nat) : ∀ (ks : List Fo) (N : Int) (cs : Cls),0≤N→dJ ks + 2≤B→(∀ c ∈ cs,c.1.length≤B)→∀ c ∈ (jn ls ks N cs).2.2,c.1.length≤B
 | [],N,cs,_,_,h=>by rw [jn];exact h
 | f :: r,N,cs,hN,hB,h=>by
  rw [dJ] at hB
  rw [jn]
  exact l7 ls B f N cs hN (by omega) h
theorem tB (ls : List Ln) (B : Nat) : ∀ (ks : List Fo) (N : Int) (cs : Cls) (out : List Int),0≤N→dJ ks + 2≤B→(∀ c ∈ cs,c.1.length≤B)→∀ c ∈ (dU ls ks N cs out).2.2,c.1.length≤B
 | [],N,cs,out,_,_,h=>by rw [dU];exact h
 | f :: r,N,cs,out,hN,hB,h=>by
  rw [dJ] at hB
  rw [dU]
  exact tB ls B r _ _ _ (iP ls f N cs hN).1.1 (by omega) (l7 ls B f N cs hN (by omega) h)
end
def aC : Nat→List Nat
 | 0=>[0]
 | 1=>[1,2]
 | 2=>[2]
 | 3=>[1,2]
 | 4=>[1,2,4]
 | 5=>[1,2,4]
 | 6=>[1,2,4]
 | 7=>[2,4,5]
 | 8=>[2,4]
 | 9=>[2]
 | 10=>[2,4]
 | 11=>[2,4,6]
 | 12=>[2,4,6,71,72,73]
 | 13=>[2,4,6,71,72,73]
 | 14=>[2,4,6,8,71,72,73]
 | 15=>[2,4,6,71,72,73]
 | 16=>[2,4,6]
 | 17=>[2,4]
 | _=>[]
set_option maxRecDepth 100000 in
set_option maxHeartbeats 16000000 in
theorem yQ (f : Fo) (hok : OkF f) : AFn Tryz.prog 18 [.agg (foA f)] [] (qP (dF f)) []:=by
 have hE : dF f = if isN f = false then (5,0,[],[])
  else if 8192 < (dc (c8 f []) f ((c8 f []).length : Int) []).2.1∨c4 (dc (c8 f []) f ((c8 f []).length : Int) []).2.1 (((dc (c8 f []) f ((c8 f []).length : Int) []).2.2 ++ [([(dc (c8 f []) f ((c8 f []).length : Int) []).1],true)]).map (·.1)) ≠ 0 then (2,0,[],[])
  else (0,(dc (c8 f []) f ((c8 f []).length : Int) []).2.1,c8 f [],((dc (c8 f []) f ((c8 f []).length : Int) []).2.2 ++ [([(dc (c8 f []) f ((c8 f []).length : Int) []).1],true)]).map (·.1)):=rfl
 have his:=zW f hok
 cases hN : isN f with
 | false =>
  rw [hE,if_pos hN]
  rw [hN] at his
  refine dB (r:=.tup [.agg [inA 0,.sl [] 0 .full,.sl [] 0 .full],.ifc 50 (.c (.int .i64 5))]) ?_ 4 (by simp [wkD,qP,di])
  clear hE hN
  obtain ⟨k,⟨c,t⟩,ks⟩:=f
  rw [cH] at his ⊢
  refine aD [] Tryz.func18 rfl Tryz.ntmps18 (Nat.le_of_ble_eq_true rfl) (Nat.le_of_ble_eq_true rfl) fun w0 G0 B0 Pr hB0=>?_
  simp only [aO,aA,List.cons_append,List.nil_append]
  repeat' (first | (with_reducible refine hY _ ?_;clear hY Y) | ((with_reducible first | refine an rfl (ar fun K' hK'=>aa ?_) | refine hK' _ (ab fun Y hY=>aa ?_) | refine ab fun Y hY=>aa ?_ | refine ae tk0 aC (ab fun Y hY=>aa ?_) | refine aa ?_ | refine ao ?_);(try clear hK' K');(try dsimp only [aop]);try simp only [go_sem,↓reduceIte,Nat.reduceEqDiff,Nat.reduceLT,Nat.reduceLeDiff,Nat.reduceAdd,Nat.reduceSub,Nat.reduceMul,Nat.reduceBEq,Nat.reduceBNe,Nat.reducePow,Int.reduceToNat,Int.reduceLE,Int.reduceLT,Int.reduceMul,Int.reduceEq,Int.reducePow,Int.reduceAdd,Int.reduceSub,Int.reduceNeg,reduceCtorEq,aC,Tryz.results18]) | (with_reducible first | refine af ?_ | refine ai ?_ | refine aj ?_ | refine ay fun K hK=>?_ | refine ap ?_ | refine aS ?_ | refine au ?_) | (with_reducible refine hK _ ?_;clear hK K) | ((with_reducible refine ag ?_ ?_);(· decide)) | (with_reducible refine ah (his) ?_))
 | true =>
 rw [if_neg (by rw [hN];decide)] at hE
 rw [hN] at his
 obtain ⟨htot,hk4⟩:=o7 hN
 have hga:=qn 0 [] f hok [] (by simp only [List.length_nil];omega) (fun o ho=>absurd ho List.not_mem_nil)
 have hgl:=jh f []
 have hgg:=lW f [] hok (fun o ho=>absurd ho List.not_mem_nil)
 rw [List.length_nil] at hgl
 have hln : ∀ o ∈ c8 f [],cY o = true:=kz f 128 20480 [] (by unfold isN at hN;exact of_decide_eq_true hN) (fun o ho=>absurd ho List.not_mem_nil)
 generalize c8 f [] = ls at *
 have hli:=wE ls (by omega) hgg f hok hk4 (ls.length : Int) [] (by omega) (by omega) (by simp only [List.length_nil];omega)
 obtain ⟨b1,b2,b3⟩:=iP ls f (ls.length : Int) [] (by omega)
 have b4:=b3 3000000 (by omega) (by omega)
 have hcl:=l7 ls 30000 f (ls.length : Int) [] (by omega) (by omega) (fun c hc=>absurd hc List.not_mem_nil)
 rw [List.length_nil] at b2
 generalize dc ls f (ls.length : Int) [] = q at *
 obtain ⟨x,M,cs⟩:=q
 simp only at hE hli b1 b2 b4 hcl
 have hga' : AFn Tryz.prog 35 [.loc 20000 0,.agg (foA f)] [.bc [inA 0,.sl [] 0 (.tok 20001),.sl [] 0 (.tok 20002),.c (.bool false)] 88,.bt 0 24,.bt 0 41] (.tup [])
  [.bc [inA 0,.sl (ls.flatMap lnA) ls.length (.tok 20001),.sl [] 0 (.tok 20002),.c (.bool false)] 88,.bt ls.length 24,.bt 0 41]:=hga
 have hli' : AFn Tryz.prog 36 [.loc 20000 0,.agg (foA f)] [.bc [inA (ls.length : Int),.sl (ls.flatMap lnA) ls.length (.tok 20001),.sl [] 0 (.tok 20002),.c (.bool false)] 88,.bt ls.length 24,.bt 0 41] (inA x)
  [.bc [inA M,.sl (ls.flatMap lnA) ls.length (.tok 20001),.sl (cs.map et) cs.length (.tok 20002),.c (.bool false)] 88,.bt ls.length 24,.bt cs.length 41]:=hli
 have hlc : (cs.map et).length = cs.length:=List.length_map ..
 have hpc : AFn Tryz.prog 37 [inA M,.sl (cs.map et ++ [.sl [inA x] 1 .full]) (cs.length + 1) .none] [] (b9 (c4 M ((cs ++ [([x],true)]).map (·.1)))) []:=by
  have hp:=kI M ((cs ++ [([x],true)]).map (·.1)) (by unfold Lg;simp only [List.length_map,List.length_append,List.length_cons,List.length_nil];omega) (fun c hc=>by
   obtain ⟨d,hd,rfl⟩:=List.mem_map.1 hc
   unfold Lg
   rcases List.mem_append.1 hd with hd | hd
   ·have:=hcl d hd;omega
   ·rw [List.mem_singleton] at hd;subst hd;simp)
  have hr:=kK cs 0
  refine hJ 2 hp ?_
  generalize cs.map et = CSW at *
  simp [wkD,hr]
 have hwk : ∀ e : AV,wkD 4 (.tup [.agg [inA M,.sl (ls.flatMap lnA) ls.length .none,.sl (cs.map et ++ [.sl [inA x] 1 .full]) (cs.length + 1) .none],.c .nilIface]) = qP (0,M,ls,(cs ++ [([x],true)]).map (·.1)):=fun e=>by
  have hr:=kK cs 0
  generalize cs.map et = CSW at *
  simp [wkD,qP,sA,cR,hr]
 clear hga hli hgg b3 hcl
 have hPc:=oS M ((cs ++ [([x],true)]).map (·.1))
 generalize c4 M ((cs ++ [([x],true)]).map (·.1)) = P at *
 have hw:=hwk (.c .nilIface)
 clear hwk
 generalize hRM : qP (0,M,ls,(cs ++ [([x],true)]).map (·.1)) = RM at *
 by_cases hbad : 8192 < M∨P ≠ 0
 ·rw [hE,if_pos hbad]
  refine dB (r:=.tup [.agg [inA 0,.sl [] 0 .full,.sl [] 0 .full],.ifc 50 (.c (.int .i64 2))]) ?_ 4 (by simp [wkD,qP,gZ])
  clear hE hRM hw hN
  generalize cs.map et = CSW at *
  by_cases hM : 8192 < M
  ·have hM' : ((8192 : Int) < M) = True:=eq_true hM
   obtain ⟨k,⟨c,t⟩,ks⟩:=f
   rw [cH] at his hga' hli' ⊢
   refine aD [] Tryz.func18 rfl Tryz.ntmps18 (Nat.le_of_ble_eq_true rfl) (Nat.le_of_ble_eq_true rfl) fun w0 G0 B0 Pr hB0=>?_
   simp only [aO,aA,List.cons_append,List.nil_append]
   repeat' (first | (with_reducible refine hY _ ?_;clear hY Y) | ((with_reducible first | refine an rfl (ar fun K' hK'=>aa ?_) | refine hK' _ (ab fun Y hY=>aa ?_) | refine ab fun Y hY=>aa ?_ | refine aa ?_);(try clear hK' K');(try dsimp only [aop]);try simp only [go_sem,↓reduceIte,Nat.reduceEqDiff,Nat.reduceLT,Nat.reduceLeDiff,Nat.reduceAdd,Nat.reduceSub,Nat.reduceMul,Nat.reduceBEq,Nat.reduceBNe,Nat.reducePow,Int.reduceToNat,Int.reduceLE,Int.reduceLT,Int.reduceMul,Int.reduceEq,Int.reducePow,Int.reduceAdd,Int.reduceSub,Int.reduceNeg,reduceCtorEq,aC,Tryz.results18]) | (with_reducible first | refine af ?_ | refine ai ?_ | refine ay fun K hK=>?_ | refine aq ?_ | refine av ?_) | ((with_reducible refine cq 4 ?_ ?_);(· rfl)) | ((with_reducible refine bD 4 tk0 aC ?_ (ab fun Y hY=>aa ?_));(· rfl);(try dsimp only [aop]);try simp only [go_sem,↓reduceIte,Nat.reduceEqDiff,Nat.reduceLT,Nat.reduceLeDiff,Nat.reduceAdd,Nat.reduceSub,Nat.reduceMul,Nat.reduceBEq,Nat.reduceBNe,Nat.reducePow,Int.reduceToNat,Int.reduceLE,Int.reduceLT,Int.reduceMul,Int.reduceEq,Int.reducePow,Int.reduceAdd,Int.reduceSub,Int.reduceNeg,reduceCtorEq,aC,Tryz.results18]) | (with_reducible refine hK _ ?_;clear hK K) | ((with_reducible refine ag ?_ ?_);(· decide)) | (with_reducible refine ah (his) ?_))
   refine gn (dm (b:=19998) (k0:=10015) (i:=1) 24 (by decide) (by decide) (by decide) rfl rfl rfl) ?_
   refine bL (L:=[1,2,4]) (by simp only [go_sem,↓reduceIte,Nat.reduceEqDiff,Nat.reduceLT,Nat.reduceLeDiff,Nat.reduceAdd,Nat.reduceSub,Nat.reduceMul,Nat.reduceBEq,Nat.reduceBNe,Nat.reducePow,Int.reduceToNat,Int.reduceLE,Int.reduceLT,Int.reduceMul,Int.reduceEq,Int.reducePow,Int.reduceAdd,Int.reduceSub,Int.reduceNeg,reduceCtorEq,List.set_cons_succ,List.set_cons_zero];exact rfl) ?_
   refine gn (dm (b:=19999) (k0:=10015) (i:=2) 41 (by decide) (by decide) (by decide) rfl rfl rfl) ?_
   refine bL (L:=[1,2,4]) (by simp only [go_sem,↓reduceIte,Nat.reduceEqDiff,Nat.reduceLT,Nat.reduceLeDiff,Nat.reduceAdd,Nat.reduceSub,Nat.reduceMul,Nat.reduceBEq,Nat.reduceBNe,Nat.reducePow,Int.reduceToNat,Int.reduceLE,Int.reduceLT,Int.reduceMul,Int.reduceEq,Int.reducePow,Int.reduceAdd,Int.reduceSub,Int.reduceNeg,reduceCtorEq,List.set_cons_succ,List.set_cons_zero];exact rfl) ?_
   repeat' (first | (with_reducible refine hY _ ?_;clear hY Y) | ((with_reducible first | refine an rfl (ar fun K' hK'=>aa ?_) | refine hK' _ (ab fun Y hY=>aa ?_) | refine ab fun Y hY=>aa ?_ | refine ae tk0 aC (ab fun Y hY=>aa ?_) | refine aa ?_ | refine ao ?_ | refine cV rfl (cT fun K' hK'=>aa ?_) | refine hK' _ _ (ab fun Y hY=>aa ?_) | refine eU rfl (ab fun Y hY=>aa ?_));(try clear hK' K');(try dsimp only [aop]);try simp only [go_sem,↓reduceIte,Nat.reduceEqDiff,Nat.reduceLT,Nat.reduceLeDiff,Nat.reduceAdd,Nat.reduceSub,Nat.reduceMul,Nat.reduceBEq,Nat.reduceBNe,Nat.reducePow,Int.reduceToNat,Int.reduceLE,Int.reduceLT,Int.reduceMul,Int.reduceEq,Int.reducePow,Int.reduceAdd,Int.reduceSub,Int.reduceNeg,reduceCtorEq,aC,Tryz.results18,hM',hlc]) | (with_reducible first | refine af ?_ | refine bh rfl ?_ | refine cS ?_ ?_ | refine ai ?_ | refine aj ?_ | refine ay fun K hK=>?_ | refine ap ?_ | refine aS ?_ | refine au ?_ | refine ch ?_ | refine eN fun K hK=>?_) | (with_reducible refine hK _ ?_;clear hK K) | (with_reducible refine hK _ _ ?_ ?_;(· kernel_rfl);clear hK K) | ((with_reducible first | refine aG ?_ ?_ | refine ag ?_ ?_);(· decide)) | (with_reducible refine cg tk0 aC ?_ ?_;(· kernel_rfl)) | (with_reducible refine bp ?_ ?_;(· (try and_intros) <;> first | omega | assumption | (simp only [List.length_append,List.length_map,List.length_cons,List.length_nil] <;> omega))) | (with_reducible refine ah (hga') ?_) | (with_reducible refine ah (hli') ?_))
  ·have hM' : ((8192 : Int) < M) = False:=eq_false hM
   have hP0 : P ≠ 0:=hbad.resolve_left hM
   rcases hPc with e | e | e | e
   ·exact absurd e hP0
   ·subst e
    rw [oT] at hpc
    obtain ⟨k,⟨c,t⟩,ks⟩:=f
    rw [cH] at his hga' hli' ⊢
    refine aD [] Tryz.func18 rfl Tryz.ntmps18 (Nat.le_of_ble_eq_true rfl) (Nat.le_of_ble_eq_true rfl) fun w0 G0 B0 Pr hB0=>?_
    simp only [aO,aA,List.cons_append,List.nil_append]
    repeat' (first | (with_reducible refine hY _ ?_;clear hY Y) | ((with_reducible first | refine an rfl (ar fun K' hK'=>aa ?_) | refine hK' _ (ab fun Y hY=>aa ?_) | refine ab fun Y hY=>aa ?_ | refine aa ?_);(try clear hK' K');(try dsimp only [aop]);try simp only [go_sem,↓reduceIte,Nat.reduceEqDiff,Nat.reduceLT,Nat.reduceLeDiff,Nat.reduceAdd,Nat.reduceSub,Nat.reduceMul,Nat.reduceBEq,Nat.reduceBNe,Nat.reducePow,Int.reduceToNat,Int.reduceLE,Int.reduceLT,Int.reduceMul,Int.reduceEq,Int.reducePow,Int.reduceAdd,Int.reduceSub,Int.reduceNeg,reduceCtorEq,aC,Tryz.results18]) | (with_reducible first | refine af ?_ | refine ai ?_ | refine ay fun K hK=>?_ | refine aq ?_ | refine av ?_) | ((with_reducible refine cq 4 ?_ ?_);(· rfl)) | ((with_reducible refine bD 4 tk0 aC ?_ (ab fun Y hY=>aa ?_));(· rfl);(try dsimp only [aop]);try simp only [go_sem,↓reduceIte,Nat.reduceEqDiff,Nat.reduceLT,Nat.reduceLeDiff,Nat.reduceAdd,Nat.reduceSub,Nat.reduceMul,Nat.reduceBEq,Nat.reduceBNe,Nat.reducePow,Int.reduceToNat,Int.reduceLE,Int.reduceLT,Int.reduceMul,Int.reduceEq,Int.reducePow,Int.reduceAdd,Int.reduceSub,Int.reduceNeg,reduceCtorEq,aC,Tryz.results18]) | (with_reducible refine hK _ ?_;clear hK K) | ((with_reducible refine ag ?_ ?_);(· decide)) | (with_reducible refine ah (his) ?_))
    refine gn (dm (b:=19998) (k0:=10015) (i:=1) 24 (by decide) (by decide) (by decide) rfl rfl rfl) ?_
    refine bL (L:=[1,2,4]) (by simp only [go_sem,↓reduceIte,Nat.reduceEqDiff,Nat.reduceLT,Nat.reduceLeDiff,Nat.reduceAdd,Nat.reduceSub,Nat.reduceMul,Nat.reduceBEq,Nat.reduceBNe,Nat.reducePow,Int.reduceToNat,Int.reduceLE,Int.reduceLT,Int.reduceMul,Int.reduceEq,Int.reducePow,Int.reduceAdd,Int.reduceSub,Int.reduceNeg,reduceCtorEq,List.set_cons_succ,List.set_cons_zero];exact rfl) ?_
    refine gn (dm (b:=19999) (k0:=10015) (i:=2) 41 (by decide) (by decide) (by decide) rfl rfl rfl) ?_
    refine bL (L:=[1,2,4]) (by simp only [go_sem,↓reduceIte,Nat.reduceEqDiff,Nat.reduceLT,Nat.reduceLeDiff,Nat.reduceAdd,Nat.reduceSub,Nat.reduceMul,Nat.reduceBEq,Nat.reduceBNe,Nat.reducePow,Int.reduceToNat,Int.reduceLE,Int.reduceLT,Int.reduceMul,Int.reduceEq,Int.reducePow,Int.reduceAdd,Int.reduceSub,Int.reduceNeg,reduceCtorEq,List.set_cons_succ,List.set_cons_zero];exact rfl) ?_
    repeat' (first | (with_reducible refine hY _ ?_;clear hY Y) | ((with_reducible first | refine an rfl (ar fun K' hK'=>aa ?_) | refine hK' _ (ab fun Y hY=>aa ?_) | refine ab fun Y hY=>aa ?_ | refine ae tk0 aC (ab fun Y hY=>aa ?_) | refine aa ?_ | refine ao ?_ | refine cV rfl (cT fun K' hK'=>aa ?_) | refine hK' _ _ (ab fun Y hY=>aa ?_) | refine eU rfl (ab fun Y hY=>aa ?_) | refine cT fun K' hK'=>aa ?_);(try clear hK' K');(try dsimp only [aop]);try simp only [go_sem,↓reduceIte,Nat.reduceEqDiff,Nat.reduceLT,Nat.reduceLeDiff,Nat.reduceAdd,Nat.reduceSub,Nat.reduceMul,Nat.reduceBEq,Nat.reduceBNe,Nat.reducePow,Int.reduceToNat,Int.reduceLE,Int.reduceLT,Int.reduceMul,Int.reduceEq,Int.reducePow,Int.reduceAdd,Int.reduceSub,Int.reduceNeg,reduceCtorEq,aC,Tryz.results18,hM',hlc]) | (with_reducible first | refine af ?_ | refine aL ?_ | refine ai ?_ | refine aj ?_ | refine ay fun K hK=>?_ | refine ap ?_ | refine aS ?_ | refine au ?_ | refine ch ?_ | refine eN fun K hK=>?_) | (with_reducible refine hK _ ?_;clear hK K) | (with_reducible refine hK _ _ ?_ ?_;(· kernel_rfl);clear hK K) | ((with_reducible first | refine aG ?_ ?_ | refine ag ?_ ?_);(· decide)) | (with_reducible refine cg tk0 aC ?_ ?_;(· kernel_rfl)) | (with_reducible refine bp ?_ ?_;(· (try and_intros) <;> first | omega | assumption | (simp only [List.length_append,List.length_map,List.length_cons,List.length_nil] <;> omega))) | (with_reducible refine ah (hga') ?_) | (with_reducible refine ah (hli') ?_) | (with_reducible refine ah (c5 hpc ?_) ?_;(· simp [cN])))
   ·subst e
    rw [gZ] at hpc
    obtain ⟨k,⟨c,t⟩,ks⟩:=f
    rw [cH] at his hga' hli' ⊢
    refine aD [] Tryz.func18 rfl Tryz.ntmps18 (Nat.le_of_ble_eq_true rfl) (Nat.le_of_ble_eq_true rfl) fun w0 G0 B0 Pr hB0=>?_
    simp only [aO,aA,List.cons_append,List.nil_append]
    repeat' (first | (with_reducible refine hY _ ?_;clear hY Y) | ((with_reducible first | refine an rfl (ar fun K' hK'=>aa ?_) | refine hK' _ (ab fun Y hY=>aa ?_) | refine ab fun Y hY=>aa ?_ | refine aa ?_);(try clear hK' K');(try dsimp only [aop]);try simp only [go_sem,↓reduceIte,Nat.reduceEqDiff,Nat.reduceLT,Nat.reduceLeDiff,Nat.reduceAdd,Nat.reduceSub,Nat.reduceMul,Nat.reduceBEq,Nat.reduceBNe,Nat.reducePow,Int.reduceToNat,Int.reduceLE,Int.reduceLT,Int.reduceMul,Int.reduceEq,Int.reducePow,Int.reduceAdd,Int.reduceSub,Int.reduceNeg,reduceCtorEq,aC,Tryz.results18]) | (with_reducible first | refine af ?_ | refine ai ?_ | refine ay fun K hK=>?_ | refine aq ?_ | refine av ?_) | ((with_reducible refine cq 4 ?_ ?_);(· rfl)) | ((with_reducible refine bD 4 tk0 aC ?_ (ab fun Y hY=>aa ?_));(· rfl);(try dsimp only [aop]);try simp only [go_sem,↓reduceIte,Nat.reduceEqDiff,Nat.reduceLT,Nat.reduceLeDiff,Nat.reduceAdd,Nat.reduceSub,Nat.reduceMul,Nat.reduceBEq,Nat.reduceBNe,Nat.reducePow,Int.reduceToNat,Int.reduceLE,Int.reduceLT,Int.reduceMul,Int.reduceEq,Int.reducePow,Int.reduceAdd,Int.reduceSub,Int.reduceNeg,reduceCtorEq,aC,Tryz.results18]) | (with_reducible refine hK _ ?_;clear hK K) | ((with_reducible refine ag ?_ ?_);(· decide)) | (with_reducible refine ah (his) ?_))
    refine gn (dm (b:=19998) (k0:=10015) (i:=1) 24 (by decide) (by decide) (by decide) rfl rfl rfl) ?_
    refine bL (L:=[1,2,4]) (by simp only [go_sem,↓reduceIte,Nat.reduceEqDiff,Nat.reduceLT,Nat.reduceLeDiff,Nat.reduceAdd,Nat.reduceSub,Nat.reduceMul,Nat.reduceBEq,Nat.reduceBNe,Nat.reducePow,Int.reduceToNat,Int.reduceLE,Int.reduceLT,Int.reduceMul,Int.reduceEq,Int.reducePow,Int.reduceAdd,Int.reduceSub,Int.reduceNeg,reduceCtorEq,List.set_cons_succ,List.set_cons_zero];exact rfl) ?_
    refine gn (dm (b:=19999) (k0:=10015) (i:=2) 41 (by decide) (by decide) (by decide) rfl rfl rfl) ?_
    refine bL (L:=[1,2,4]) (by simp only [go_sem,↓reduceIte,Nat.reduceEqDiff,Nat.reduceLT,Nat.reduceLeDiff,Nat.reduceAdd,Nat.reduceSub,Nat.reduceMul,Nat.reduceBEq,Nat.reduceBNe,Nat.reducePow,Int.reduceToNat,Int.reduceLE,Int.reduceLT,Int.reduceMul,Int.reduceEq,Int.reducePow,Int.reduceAdd,Int.reduceSub,Int.reduceNeg,reduceCtorEq,List.set_cons_succ,List.set_cons_zero];exact rfl) ?_
    repeat' (first | (with_reducible refine hY _ ?_;clear hY Y) | ((with_reducible first | refine an rfl (ar fun K' hK'=>aa ?_) | refine hK' _ (ab fun Y hY=>aa ?_) | refine ab fun Y hY=>aa ?_ | refine ae tk0 aC (ab fun Y hY=>aa ?_) | refine aa ?_ | refine ao ?_ | refine cV rfl (cT fun K' hK'=>aa ?_) | refine hK' _ _ (ab fun Y hY=>aa ?_) | refine eU rfl (ab fun Y hY=>aa ?_) | refine cT fun K' hK'=>aa ?_);(try clear hK' K');(try dsimp only [aop]);try simp only [go_sem,↓reduceIte,Nat.reduceEqDiff,Nat.reduceLT,Nat.reduceLeDiff,Nat.reduceAdd,Nat.reduceSub,Nat.reduceMul,Nat.reduceBEq,Nat.reduceBNe,Nat.reducePow,Int.reduceToNat,Int.reduceLE,Int.reduceLT,Int.reduceMul,Int.reduceEq,Int.reducePow,Int.reduceAdd,Int.reduceSub,Int.reduceNeg,reduceCtorEq,aC,Tryz.results18,hM',hlc]) | (with_reducible first | refine af ?_ | refine aL ?_ | refine ai ?_ | refine aj ?_ | refine ay fun K hK=>?_ | refine ap ?_ | refine aS ?_ | refine au ?_ | refine ch ?_ | refine eN fun K hK=>?_) | (with_reducible refine hK _ ?_;clear hK K) | (with_reducible refine hK _ _ ?_ ?_;(· kernel_rfl);clear hK K) | ((with_reducible first | refine aG ?_ ?_ | refine ag ?_ ?_);(· decide)) | (with_reducible refine cg tk0 aC ?_ ?_;(· kernel_rfl)) | (with_reducible refine bp ?_ ?_;(· (try and_intros) <;> first | omega | assumption | (simp only [List.length_append,List.length_map,List.length_cons,List.length_nil] <;> omega))) | (with_reducible refine ah (hga') ?_) | (with_reducible refine ah (hli') ?_) | (with_reducible refine ah (c5 hpc ?_) ?_;(· simp [cN])))
   ·subst e
    rw [di] at hpc
    obtain ⟨k,⟨c,t⟩,ks⟩:=f
    rw [cH] at his hga' hli' ⊢
    refine aD [] Tryz.func18 rfl Tryz.ntmps18 (Nat.le_of_ble_eq_true rfl) (Nat.le_of_ble_eq_true rfl) fun w0 G0 B0 Pr hB0=>?_
    simp only [aO,aA,List.cons_append,List.nil_append]
    repeat' (first | (with_reducible refine hY _ ?_;clear hY Y) | ((with_reducible first | refine an rfl (ar fun K' hK'=>aa ?_) | refine hK' _ (ab fun Y hY=>aa ?_) | refine ab fun Y hY=>aa ?_ | refine aa ?_);(try clear hK' K');(try dsimp only [aop]);try simp only [go_sem,↓reduceIte,Nat.reduceEqDiff,Nat.reduceLT,Nat.reduceLeDiff,Nat.reduceAdd,Nat.reduceSub,Nat.reduceMul,Nat.reduceBEq,Nat.reduceBNe,Nat.reducePow,Int.reduceToNat,Int.reduceLE,Int.reduceLT,Int.reduceMul,Int.reduceEq,Int.reducePow,Int.reduceAdd,Int.reduceSub,Int.reduceNeg,reduceCtorEq,aC,Tryz.results18]) | (with_reducible first | refine af ?_ | refine ai ?_ | refine ay fun K hK=>?_ | refine aq ?_ | refine av ?_) | ((with_reducible refine cq 4 ?_ ?_);(· rfl)) | ((with_reducible refine bD 4 tk0 aC ?_ (ab fun Y hY=>aa ?_));(· rfl);(try dsimp only [aop]);try simp only [go_sem,↓reduceIte,Nat.reduceEqDiff,Nat.reduceLT,Nat.reduceLeDiff,Nat.reduceAdd,Nat.reduceSub,Nat.reduceMul,Nat.reduceBEq,Nat.reduceBNe,Nat.reducePow,Int.reduceToNat,Int.reduceLE,Int.reduceLT,Int.reduceMul,Int.reduceEq,Int.reducePow,Int.reduceAdd,Int.reduceSub,Int.reduceNeg,reduceCtorEq,aC,Tryz.results18]) | (with_reducible refine hK _ ?_;clear hK K) | ((with_reducible refine ag ?_ ?_);(· decide)) | (with_reducible refine ah (his) ?_))
    refine gn (dm (b:=19998) (k0:=10015) (i:=1) 24 (by decide) (by decide) (by decide) rfl rfl rfl) ?_
    refine bL (L:=[1,2,4]) (by simp only [go_sem,↓reduceIte,Nat.reduceEqDiff,Nat.reduceLT,Nat.reduceLeDiff,Nat.reduceAdd,Nat.reduceSub,Nat.reduceMul,Nat.reduceBEq,Nat.reduceBNe,Nat.reducePow,Int.reduceToNat,Int.reduceLE,Int.reduceLT,Int.reduceMul,Int.reduceEq,Int.reducePow,Int.reduceAdd,Int.reduceSub,Int.reduceNeg,reduceCtorEq,List.set_cons_succ,List.set_cons_zero];exact rfl) ?_
    refine gn (dm (b:=19999) (k0:=10015) (i:=2) 41 (by decide) (by decide) (by decide) rfl rfl rfl) ?_
    refine bL (L:=[1,2,4]) (by simp only [go_sem,↓reduceIte,Nat.reduceEqDiff,Nat.reduceLT,Nat.reduceLeDiff,Nat.reduceAdd,Nat.reduceSub,Nat.reduceMul,Nat.reduceBEq,Nat.reduceBNe,Nat.reducePow,Int.reduceToNat,Int.reduceLE,Int.reduceLT,Int.reduceMul,Int.reduceEq,Int.reducePow,Int.reduceAdd,Int.reduceSub,Int.reduceNeg,reduceCtorEq,List.set_cons_succ,List.set_cons_zero];exact rfl) ?_
    repeat' (first | (with_reducible refine hY _ ?_;clear hY Y) | ((with_reducible first | refine an rfl (ar fun K' hK'=>aa ?_) | refine hK' _ (ab fun Y hY=>aa ?_) | refine ab fun Y hY=>aa ?_ | refine ae tk0 aC (ab fun Y hY=>aa ?_) | refine aa ?_ | refine ao ?_ | refine cV rfl (cT fun K' hK'=>aa ?_) | refine hK' _ _ (ab fun Y hY=>aa ?_) | refine eU rfl (ab fun Y hY=>aa ?_) | refine cT fun K' hK'=>aa ?_);(try clear hK' K');(try dsimp only [aop]);try simp only [go_sem,↓reduceIte,Nat.reduceEqDiff,Nat.reduceLT,Nat.reduceLeDiff,Nat.reduceAdd,Nat.reduceSub,Nat.reduceMul,Nat.reduceBEq,Nat.reduceBNe,Nat.reducePow,Int.reduceToNat,Int.reduceLE,Int.reduceLT,Int.reduceMul,Int.reduceEq,Int.reducePow,Int.reduceAdd,Int.reduceSub,Int.reduceNeg,reduceCtorEq,aC,Tryz.results18,hM',hlc]) | (with_reducible first | refine af ?_ | refine aL ?_ | refine ai ?_ | refine aj ?_ | refine ay fun K hK=>?_ | refine ap ?_ | refine aS ?_ | refine au ?_ | refine ch ?_ | refine eN fun K hK=>?_) | (with_reducible refine hK _ ?_;clear hK K) | (with_reducible refine hK _ _ ?_ ?_;(· kernel_rfl);clear hK K) | ((with_reducible first | refine aG ?_ ?_ | refine ag ?_ ?_);(· decide)) | (with_reducible refine cg tk0 aC ?_ ?_;(· kernel_rfl)) | (with_reducible refine bp ?_ ?_;(· (try and_intros) <;> first | omega | assumption | (simp only [List.length_append,List.length_map,List.length_cons,List.length_nil] <;> omega))) | (with_reducible refine ah (hga') ?_) | (with_reducible refine ah (hli') ?_) | (with_reducible refine ah (c5 hpc ?_) ?_;(· simp [cN])))
 ·have hP : P = 0:=by omega
  have hM : ¬ 8192 < M:=fun h=>hbad (.inl h)
  rw [hE,if_neg hbad,hRM]
  subst hP
  rw [cR] at hpc
  have hM' : ((8192 : Int) < M) = False:=eq_false hM
  refine dB ?_ 4 hw
  clear hE hRM hw hN hbad
  generalize cs.map et = CSW at *
  obtain ⟨k,⟨c,t⟩,ks⟩:=f
  rw [cH] at his hga' hli' ⊢
  refine aD [] Tryz.func18 rfl Tryz.ntmps18 (Nat.le_of_ble_eq_true rfl) (Nat.le_of_ble_eq_true rfl) fun w0 G0 B0 Pr hB0=>?_
  simp only [aO,aA,List.cons_append,List.nil_append]
  repeat' (first | (with_reducible refine hY _ ?_;clear hY Y) | ((with_reducible first | refine an rfl (ar fun K' hK'=>aa ?_) | refine hK' _ (ab fun Y hY=>aa ?_) | refine ab fun Y hY=>aa ?_ | refine aa ?_);(try clear hK' K');(try dsimp only [aop]);try simp only [go_sem,↓reduceIte,Nat.reduceEqDiff,Nat.reduceLT,Nat.reduceLeDiff,Nat.reduceAdd,Nat.reduceSub,Nat.reduceMul,Nat.reduceBEq,Nat.reduceBNe,Nat.reducePow,Int.reduceToNat,Int.reduceLE,Int.reduceLT,Int.reduceMul,Int.reduceEq,Int.reducePow,Int.reduceAdd,Int.reduceSub,Int.reduceNeg,reduceCtorEq,aC,Tryz.results18]) | (with_reducible first | refine af ?_ | refine ai ?_ | refine ay fun K hK=>?_ | refine aq ?_ | refine av ?_) | ((with_reducible refine cq 4 ?_ ?_);(· rfl)) | ((with_reducible refine bD 4 tk0 aC ?_ (ab fun Y hY=>aa ?_));(· rfl);(try dsimp only [aop]);try simp only [go_sem,↓reduceIte,Nat.reduceEqDiff,Nat.reduceLT,Nat.reduceLeDiff,Nat.reduceAdd,Nat.reduceSub,Nat.reduceMul,Nat.reduceBEq,Nat.reduceBNe,Nat.reducePow,Int.reduceToNat,Int.reduceLE,Int.reduceLT,Int.reduceMul,Int.reduceEq,Int.reducePow,Int.reduceAdd,Int.reduceSub,Int.reduceNeg,reduceCtorEq,aC,Tryz.results18]) | (with_reducible refine hK _ ?_;clear hK K) | ((with_reducible refine ag ?_ ?_);(· decide)) | (with_reducible refine ah (his) ?_))
  refine gn (dm (b:=19998) (k0:=10015) (i:=1) 24 (by decide) (by decide) (by decide) rfl rfl rfl) ?_
  refine bL (L:=[1,2,4]) (by simp only [go_sem,↓reduceIte,Nat.reduceEqDiff,Nat.reduceLT,Nat.reduceLeDiff,Nat.reduceAdd,Nat.reduceSub,Nat.reduceMul,Nat.reduceBEq,Nat.reduceBNe,Nat.reducePow,Int.reduceToNat,Int.reduceLE,Int.reduceLT,Int.reduceMul,Int.reduceEq,Int.reducePow,Int.reduceAdd,Int.reduceSub,Int.reduceNeg,reduceCtorEq,List.set_cons_succ,List.set_cons_zero];exact rfl) ?_
  refine gn (dm (b:=19999) (k0:=10015) (i:=2) 41 (by decide) (by decide) (by decide) rfl rfl rfl) ?_
  refine bL (L:=[1,2,4]) (by simp only [go_sem,↓reduceIte,Nat.reduceEqDiff,Nat.reduceLT,Nat.reduceLeDiff,Nat.reduceAdd,Nat.reduceSub,Nat.reduceMul,Nat.reduceBEq,Nat.reduceBNe,Nat.reducePow,Int.reduceToNat,Int.reduceLE,Int.reduceLT,Int.reduceMul,Int.reduceEq,Int.reducePow,Int.reduceAdd,Int.reduceSub,Int.reduceNeg,reduceCtorEq,List.set_cons_succ,List.set_cons_zero];exact rfl) ?_
  repeat' (first | (with_reducible refine hY _ ?_;clear hY Y) | ((with_reducible first | refine an rfl (ar fun K' hK'=>aa ?_) | refine hK' _ (ab fun Y hY=>aa ?_) | refine ab fun Y hY=>aa ?_ | refine ae tk0 aC (ab fun Y hY=>aa ?_) | refine aa ?_ | refine cV rfl (cT fun K' hK'=>aa ?_) | refine hK' _ _ (ab fun Y hY=>aa ?_) | refine eU rfl (ab fun Y hY=>aa ?_) | refine cT fun K' hK'=>aa ?_);(try clear hK' K');(try dsimp only [aop]);try simp only [go_sem,↓reduceIte,Nat.reduceEqDiff,Nat.reduceLT,Nat.reduceLeDiff,Nat.reduceAdd,Nat.reduceSub,Nat.reduceMul,Nat.reduceBEq,Nat.reduceBNe,Nat.reducePow,Int.reduceToNat,Int.reduceLE,Int.reduceLT,Int.reduceMul,Int.reduceEq,Int.reducePow,Int.reduceAdd,Int.reduceSub,Int.reduceNeg,reduceCtorEq,aC,Tryz.results18,hM',hlc]) | (with_reducible first | refine af ?_ | refine aL ?_ | refine ai ?_ | refine aj ?_ | refine ay fun K hK=>?_ | refine aq ?_ | refine al ?_ | refine av ?_ | refine bG ?_ | refine ch ?_ | refine eN fun K hK=>?_) | (with_reducible refine hK _ ?_;clear hK K) | (with_reducible refine hK _ _ ?_ ?_;(· kernel_rfl);clear hK K) | ((with_reducible first | refine aG ?_ ?_ | refine ag ?_ ?_);(· decide)) | (with_reducible refine cg tk0 aC ?_ ?_;(· kernel_rfl)) | (with_reducible refine bp ?_ ?_;(· (try and_intros) <;> first | omega | assumption | (simp only [List.length_append,List.length_map,List.length_cons,List.length_nil] <;> omega))) | (with_reducible refine ah (hga') ?_) | (with_reducible refine ah (hli') ?_) | (with_reducible refine ah (c5 hpc ?_) ?_;(· simp [cN])) | (with_reducible refine ce (cr) ?_))
  refine eu (gp (b:=10085) (t:=6) 24 (by decide) (by decide) rfl rfl) ?_
  refine bK (α:=Nat) (fun j=>[(2,.loc 10002 0),(4,.loc 10015 0),(6,.sl ((ls.take j).flatMap lnA) j (.tok 10085)),(71,.sl (ls.flatMap lnA) ls.length (.tok 19998)),(72,inA (ls.length : Int)),(73,inA (j : Int)),(10002,.bc [inA 0,.sl [] 0 .full,.sl [] 0 .full] 57),(10015,.bc [inA M,.sl (ls.flatMap lnA) ls.length (.tok 19998),.sl (CSW ++ [.sl [inA x] 1 .full]) (cs.length + 1) (.tok 19999),.c (.bool false)] 88),(10085,.bt j 24),(19998,.bt ls.length 24),(19999,.bt (cs.length + 1) 41)])
   (fun j=>j≤ls.length) (fun j=>ls.length - j) 0 [2,4,6,71,72,73] ?_ (Nat.zero_le _) ?_
  ·simp only [go_sem,↓reduceIte,Nat.reduceEqDiff,Nat.reduceLT,Nat.reduceLeDiff,Nat.reduceAdd,Nat.reduceSub,Nat.reduceMul,Nat.reduceBEq,Nat.reduceBNe,Nat.reducePow,Int.reduceToNat,Int.reduceLE,Int.reduceLT,Int.reduceMul,Int.reduceEq,Int.reducePow,Int.reduceAdd,Int.reduceSub,Int.reduceNeg,reduceCtorEq] <;> rfl
  intro j hj ih
  by_cases hlt : j < ls.length
  ·have hlt' : ((j : Int) < (ls.length : Int)) = True:=eq_true (by omega)
   have hkw:=cf (n:=j) (by omega)
   have hg0:=jo hlt
   have hfl:=ei ls
   have hcs : ((ls.take j).flatMap lnA).length = j * 2:=by rw [ei,List.length_take];omega
   have h64:=(ef (hln _ (List.getElem_mem hlt))).2.1
   have hck:=kq ls[j].t .none (.inl rfl) (by omega)
   have ih':=ih (j + 1) (by omega)  (by omega)
   rw [List.take_succ_eq_append_getElem hlt,mI] at ih'
   clear ih hln hpc hga' hli' his
   generalize ls[j] = l at *
   generalize (ls.take j).flatMap lnA = PC at *
   repeat' (first | (with_reducible refine hY _ ?_;clear hY Y) | ((with_reducible first | refine an rfl (ar fun K' hK'=>aa ?_) | refine hK' _ (ab fun Y hY=>aa ?_) | refine ab fun Y hY=>aa ?_ | refine ae tk0 aC (ab fun Y hY=>aa ?_) | refine aa ?_ | refine cV rfl (cT fun K' hK'=>aa ?_) | refine hK' _ _ (ab fun Y hY=>aa ?_));(try clear hK' K');(try dsimp only [aop]);try simp only [go_sem,↓reduceIte,Nat.reduceEqDiff,Nat.reduceLT,Nat.reduceLeDiff,Nat.reduceAdd,Nat.reduceSub,Nat.reduceMul,Nat.reduceBEq,Nat.reduceBNe,Nat.reducePow,Int.reduceToNat,Int.reduceLE,Int.reduceLT,Int.reduceMul,Int.reduceEq,Int.reducePow,Int.reduceAdd,Int.reduceSub,Int.reduceNeg,reduceCtorEq,aC,Tryz.results18,hlt',hfl,hg0,hkw,hcs]) | (with_reducible first | refine af ?_ | refine ai ?_ | refine aj ?_ | refine ay fun K hK=>?_ | refine ap ?_ | refine aU ?_ | refine al ?_ | refine av ?_ | refine ch ?_ | refine eN fun K hK=>?_) | (with_reducible refine hK _ ?_;clear hK K) | (with_reducible refine hK _ _ ?_ ?_;(· kernel_rfl);clear hK K) | ((with_reducible refine ag ?_ ?_);(· decide)) | (with_reducible refine cg tk0 aC ?_ ?_;(· kernel_rfl)) | (with_reducible refine bp ?_ ?_;(· (try and_intros) <;> first | omega | assumption | (simp only [List.length_append,List.length_map,List.length_cons,List.length_nil] <;> omega))) | (with_reducible refine ah (hck) ?_))
   refine bi [2,4,6,71,72,73] (by simp only [go_sem,↓reduceIte,Nat.reduceEqDiff,Nat.reduceLT,Nat.reduceLeDiff,Nat.reduceAdd,Nat.reduceSub,Nat.reduceMul,Nat.reduceBEq,Nat.reduceBNe,Nat.reducePow,Int.reduceToNat,Int.reduceLE,Int.reduceLT,Int.reduceMul,Int.reduceEq,Int.reducePow,Int.reduceAdd,Int.reduceSub,Int.reduceNeg,reduceCtorEq];exact rfl) ?_
   exact ih'
  ·have hlt' : ((j : Int) < (ls.length : Int)) = False:=eq_false (by omega)
   obtain rfl : j = ls.length:=by omega
   rw [List.take_of_length_le (by omega)]
   clear ih hln hpc hga' hli' his
   repeat' (first | (with_reducible refine hY _ ?_;clear hY Y) | ((with_reducible first | refine an rfl (ar fun K' hK'=>aa ?_) | refine hK' _ (ab fun Y hY=>aa ?_) | refine ab fun Y hY=>aa ?_ | refine ae tk0 aC (ab fun Y hY=>aa ?_) | refine aa ?_ | refine ao ?_);(try clear hK' K');(try dsimp only [aop]);try simp only [go_sem,↓reduceIte,Nat.reduceEqDiff,Nat.reduceLT,Nat.reduceLeDiff,Nat.reduceAdd,Nat.reduceSub,Nat.reduceMul,Nat.reduceBEq,Nat.reduceBNe,Nat.reducePow,Int.reduceToNat,Int.reduceLE,Int.reduceLT,Int.reduceMul,Int.reduceEq,Int.reducePow,Int.reduceAdd,Int.reduceSub,Int.reduceNeg,reduceCtorEq,aC,Tryz.results18,hlt']) | (with_reducible first | refine af ?_ | refine ai ?_ | refine aj ?_ | refine ay fun K hK=>?_ | refine aq ?_ | refine bC ?_ | refine bg ?_ | refine au ?_ | refine bf ?_) | (with_reducible refine hK _ ?_;clear hK K) | ((with_reducible refine ag ?_ ?_);(· decide)))
end Go.Proofs.YtmpdocplcgbpkaaGreatDoor
namespace Go.Proofs.YtmpdocplcgbpkaaGreatDoor
set_option linter.unusedSimpArgs false
set_option linter.unusedVariables false
def kc (c : List Int) : List Int:=c.map fun l=>-l
def kL (n : Nat) (all : List (List Int)) (base : Nat) : List (List Int)→Nat→Nat × Int
 | [],_=>(0,-1)
 | s :: r,i=>if (gN n (all.take (base + i)) (kc s)).1 = true then (9,i) else kL n all base r (i + 1)
def pI (n : Int) (cls steps : List (List Int)) : Nat × Int :=
 if c4 n cls ≠ 0 then (c4 n cls,-1) else if c4 n (cls ++ steps) ≠ 0 then (c4 n (cls ++ steps),-1)
 else if (kL n.toNat (cls ++ steps) cls.length steps 0).1 ≠ 0 then kL n.toNat (cls ++ steps) cls.length steps 0
 else if (cls ++ steps).any (fun c=>decide (c.length = 0)) then (0,-1) else (8,-1)
theorem jb {n : Int} {cs : List (List Int)} (h : c4 n cs = 0) : (0≤n∧n≤8192)∧cs.length≤16384∧fi cs≤131072∧∀ c ∈ cs,∀ l ∈ c,OkL n.toNat l:=by
 unfold c4 at h
 split at h
 ·cases h
 split at h
 ·cases h
 split at h
 ·cases h
 rename_i h1 h2 h3
 refine ⟨by omega,by omega,by omega,fun c hc l hl=>?_⟩
 have h4 : iO n l = true:=by
  cases e : iO n l with
  | true=>rfl
  | false=>exact absurd (List.any_eq_true.2 ⟨c,hc,List.any_eq_true.2 ⟨l,hl,by rw [e];rfl⟩⟩) h3
 unfold iO at h4
 simp only [Bool.and_eq_true,Bool.not_eq_true',decide_eq_false_iff_not,decide_eq_true_eq] at h4
 exact ⟨h4.1,by omega⟩
theorem tz {n : Nat} {l : Int} (h : OkL n l) : iO n l = true:=by
 unfold iO
 obtain ⟨h1,h2⟩:=h
 simp only [Bool.and_eq_true,Bool.not_eq_true',decide_eq_false_iff_not,decide_eq_true_eq]
 exact ⟨h1,by omega,by omega⟩
theorem qd {n : Int} {cs : List (List Int)} (h : c4 n cs = 0) (k : Nat) : c4 n (cs.take k) = 0:=by
 obtain ⟨h1,h2,h3,h4⟩:=jb h
 have hs:=kP cs k
 unfold c4
 rw [if_neg (by omega),if_neg (by rw [List.length_take];omega),if_neg]
 intro e
 obtain ⟨c,hc,e⟩:=List.any_eq_true.1 e
 obtain ⟨l,hl,e⟩:=List.any_eq_true.1 e
 have:=tz (h4 c (List.mem_of_mem_take hc) l hl)
 rw [show ((n.toNat : Nat) : Int) = n by omega] at this
 rw [this] at e
 cases e
theorem tJ {n : Nat} {c : List Int} (h : ∀ l ∈ c,OkL n l) : ∀ l ∈ kc c,OkL n l:=fun l hl=>by
 obtain ⟨x,hx,rfl⟩:=List.mem_map.1 hl
 obtain ⟨h1,h2⟩:=h x hx
 exact ⟨by omega,by omega⟩
theorem uX {n : Nat} {all : List (List Int)} {base : Nat} {ss : List (List Int)} {i : Nat} (h : i < ss.length) : kL n all base (ss.drop i) i = if (gN n (all.take (base + i)) (kc ss[i])).1 = true then (9,(i : Int)) else kL n all base (ss.drop (i + 1)) (i + 1):=by
 rw [List.drop_eq_getElem_cons h,kL]
structure Lem where
 lits : List Int
 steps : List Stp
structure Crt where
 lems : List Lem
 refute : List (List Int)
def pr (atoms : List Ln) (l : Lem) : Nat:=if (gG atoms l.lits).1 ≠ 0 then (gG atoms l.lits).1 else (gf (gG atoms l.lits).2 l.steps).1
def gS (atoms : List Ln) : List Lem→Nat→Nat × Int
 | [],_=>(0,-1)
 | l :: r,i=>if pr atoms l ≠ 0 then (pr atoms l,i) else gS atoms r (i + 1)
def kp (f : Fo) (c : Crt) : Nat × Int :=
 if (c7 f).1 ≠ 0 then ((c7 f).1,-1)
 else if (dF (c7 f).2).1 ≠ 0 then ((dF (c7 f).2).1,-1)
 else if 4096 < c.lems.length then (2,-1)
 else if (gS (dF (c7 f).2).2.2.1 c.lems 0).1 ≠ 0 then gS (dF (c7 f).2).2.2.1 c.lems 0
 else pI (dF (c7 f).2).2.1 ((dF (c7 f).2).2.2.2 ++ c.lems.map (·.lits)) c.refute
end Go.Proofs.YtmpdocplcgbpkaaGreatDoor
namespace Go.Proofs.YtmpdocplcgbpkaaGreatDoor
set_option linter.unusedSimpArgs false
set_option linter.unusedVariables false
open Go.RowKit
def mL (f : Fo) : Cls:=(dc (c8 f []) f ((c8 f []).length : Int) []).2.2 ++ [([(dc (c8 f []) f ((c8 f []).length : Int) []).1],true)]
theorem l9 {f : Fo} (h : (dF f).1 = 0) : isN f = true∧(dF f).2.1 = (dc (c8 f []) f ((c8 f []).length : Int) []).2.1∧(dF f).2.2.1 = c8 f []∧(dF f).2.2.2 = (mL f).map (·.1) ∧
  (dF f).2.1≤8192∧c4 (dF f).2.1 (dF f).2.2.2 = 0:=by
 unfold dF at h ⊢
 split at h
 ·cases h
 rename_i h1
 split at h
 ·cases h
 rename_i h2
 rw [if_neg h1,if_neg h2]
 refine ⟨by simpa using h1,rfl,rfl,rfl,?_,?_⟩
 ·exact Int.not_lt.1 fun e=>h2 (.inl e)
 ·exact Decidable.not_not.1 fun e=>h2 (.inr e)
theorem qB {f : Fo} (h : (dF f).1 = 0) : (dF f).2.2.1.length≤20480∧∀ o ∈ (dF f).2.2.1,cY o = true:=by
 obtain ⟨h1,_,h3,_⟩:=l9 h
 rw [h3]
 have hgl:=jh f []
 have:=(o7 h1).1
 rw [List.length_nil] at hgl
 exact ⟨by omega,kz f 128 20480 [] (by unfold isN at h1;exact of_decide_eq_true h1) (fun o ho=>absurd ho List.not_mem_nil)⟩
set_option maxRecDepth 100000 in
set_option maxHeartbeats 16000000 in
theorem yR (f : Fo) (hok : OkF f) (h0 : (dF f).1 = 0) :
  AFn Tryz.prog 18 [.agg (foA f)] [] (.tup [.agg [inA (dF f).2.1,gB (dF f).2.2.1,.sl ((mL f).map et) (mL f).length (.tok 20000)],.c .nilIface]) [.bt (mL f).length 41]:=by
 obtain ⟨hN,e1,e2,e3,hM,hP⟩:=l9 h0
 rw [e1] at hM
 rw [e3,e1] at hP
 rw [e1,e2]
 clear e1 e2 e3 h0
 unfold mL at hP ⊢
 have his:=zW f hok
 rw [hN] at his
 obtain ⟨htot,hk4⟩:=o7 hN
 have hga:=qn 0 [] f hok [] (by simp only [List.length_nil];omega) (fun o ho=>absurd ho List.not_mem_nil)
 have hgl:=jh f []
 have hgg:=lW f [] hok (fun o ho=>absurd ho List.not_mem_nil)
 rw [List.length_nil] at hgl
 have hln : ∀ o ∈ c8 f [],cY o = true:=kz f 128 20480 [] (by unfold isN at hN;exact of_decide_eq_true hN) (fun o ho=>absurd ho List.not_mem_nil)
 generalize c8 f [] = ls at *
 have hli:=wE ls (by omega) hgg f hok hk4 (ls.length : Int) [] (by omega) (by omega) (by simp only [List.length_nil];omega)
 obtain ⟨b1,b2,b3⟩:=iP ls f (ls.length : Int) [] (by omega)
 have b4:=b3 3000000 (by omega) (by omega)
 have hcl:=l7 ls 30000 f (ls.length : Int) [] (by omega) (by omega) (fun c hc=>absurd hc List.not_mem_nil)
 rw [List.length_nil] at b2
 generalize dc ls f (ls.length : Int) [] = q at *
 obtain ⟨x,M,cs⟩:=q
 simp only at hM hP hli b1 b2 b4 hcl ⊢
 have hga' : AFn Tryz.prog 35 [.loc 20000 0,.agg (foA f)] [.bc [inA 0,.sl [] 0 (.tok 20001),.sl [] 0 (.tok 20002),.c (.bool false)] 88,.bt 0 24,.bt 0 41] (.tup [])
  [.bc [inA 0,.sl (ls.flatMap lnA) ls.length (.tok 20001),.sl [] 0 (.tok 20002),.c (.bool false)] 88,.bt ls.length 24,.bt 0 41]:=hga
 have hli' : AFn Tryz.prog 36 [.loc 20000 0,.agg (foA f)] [.bc [inA (ls.length : Int),.sl (ls.flatMap lnA) ls.length (.tok 20001),.sl [] 0 (.tok 20002),.c (.bool false)] 88,.bt ls.length 24,.bt 0 41] (inA x)
  [.bc [inA M,.sl (ls.flatMap lnA) ls.length (.tok 20001),.sl (cs.map et) cs.length (.tok 20002),.c (.bool false)] 88,.bt ls.length 24,.bt cs.length 41]:=hli
 have hlc : (cs.map et).length = cs.length:=List.length_map ..
 have hpc : AFn Tryz.prog 37 [inA M,.sl (cs.map et ++ [.sl [inA x] 1 .full]) (cs.length + 1) .none] [] (b9 (c4 M ((cs ++ [([x],true)]).map (·.1)))) []:=by
  have hp:=kI M ((cs ++ [([x],true)]).map (·.1)) (by unfold Lg;simp only [List.length_map,List.length_append,List.length_cons,List.length_nil];omega) (fun c hc=>by
   obtain ⟨d,hd,rfl⟩:=List.mem_map.1 hc
   unfold Lg
   rcases List.mem_append.1 hd with hd | hd
   ·have:=hcl d hd;omega
   ·rw [List.mem_singleton] at hd;subst hd;simp)
  have hr:=kK cs 0
  refine hJ 2 hp ?_
  generalize cs.map et = CSW at *
  simp [wkD,hr]
 rw [hP,cR] at hpc
 have hrw : ((cs ++ [([x],true)]).map et) = cs.map et ++ [.sl [inA x] 1 .full]:=by rw [List.map_append];rfl
 have hrl : (cs ++ [([x],true)]).length = cs.length + 1:=by rw [List.length_append];rfl
 rw [hrw,hrl]
 clear hga hli hgg b3 hcl hP hrw hrl
 have hM' : ((8192 : Int) < M) = False:=eq_false (by omega)
 have hwk : wkD 1 (.tup [.agg [inA M,.sl (ls.flatMap lnA) ls.length .none,.sl (cs.map et ++ [.sl [inA x] 1 .full]) (cs.length + 1) (.tok 20000)],.c .nilIface]) = .tup [.agg [inA M,.sl (ls.flatMap lnA) ls.length .none,.sl (cs.map et ++ [.sl [inA x] 1 .full]) (cs.length + 1) (.tok 20000)],.c .nilIface]:=by
  generalize cs.map et = CSW at *
  simp [wkD,sA]
 generalize cs.map et = CSW at *
 obtain ⟨k,⟨c,t⟩,ks⟩:=f
 rw [cH] at his hga' hli' ⊢
 refine aD [19999] Tryz.func18 rfl Tryz.ntmps18 (Nat.le_of_ble_eq_true rfl) (Nat.le_of_ble_eq_true rfl) fun w0 G0 B0 Pr hB0=>?_
 simp only [aO,aA,List.cons_append,List.nil_append]
 repeat' (first | (with_reducible refine hY _ ?_;clear hY Y) | ((with_reducible first | refine an rfl (ar fun K' hK'=>aa ?_) | refine hK' _ (ab fun Y hY=>aa ?_) | refine ab fun Y hY=>aa ?_ | refine aa ?_);(try clear hK' K');(try dsimp only [aop]);try simp only [go_sem,↓reduceIte,Nat.reduceEqDiff,Nat.reduceLT,Nat.reduceLeDiff,Nat.reduceAdd,Nat.reduceSub,Nat.reduceMul,Nat.reduceBEq,Nat.reduceBNe,Nat.reducePow,Int.reduceToNat,Int.reduceLE,Int.reduceLT,Int.reduceMul,Int.reduceEq,Int.reducePow,Int.reduceAdd,Int.reduceSub,Int.reduceNeg,reduceCtorEq,aC,Tryz.results18]) | (with_reducible first | refine af ?_ | refine ai ?_ | refine ay fun K hK=>?_ | refine aq ?_ | refine av ?_) | ((with_reducible refine cq 4 ?_ ?_);(· rfl)) | ((with_reducible refine bD 4 tk0 aC ?_ (ab fun Y hY=>aa ?_));(· rfl);(try dsimp only [aop]);try simp only [go_sem,↓reduceIte,Nat.reduceEqDiff,Nat.reduceLT,Nat.reduceLeDiff,Nat.reduceAdd,Nat.reduceSub,Nat.reduceMul,Nat.reduceBEq,Nat.reduceBNe,Nat.reducePow,Int.reduceToNat,Int.reduceLE,Int.reduceLT,Int.reduceMul,Int.reduceEq,Int.reducePow,Int.reduceAdd,Int.reduceSub,Int.reduceNeg,reduceCtorEq,aC,Tryz.results18]) | (with_reducible refine hK _ ?_;clear hK K) | ((with_reducible refine ag ?_ ?_);(· decide)) | (with_reducible refine ah (his) ?_))
 refine gn (dm (b:=19998) (k0:=10015) (i:=1) 24 (by decide) (by decide) (by decide) rfl rfl rfl) ?_
 refine bL (L:=[1,2,4]) (by simp only [go_sem,↓reduceIte,Nat.reduceEqDiff,Nat.reduceLT,Nat.reduceLeDiff,Nat.reduceAdd,Nat.reduceSub,Nat.reduceMul,Nat.reduceBEq,Nat.reduceBNe,Nat.reducePow,Int.reduceToNat,Int.reduceLE,Int.reduceLT,Int.reduceMul,Int.reduceEq,Int.reducePow,Int.reduceAdd,Int.reduceSub,Int.reduceNeg,reduceCtorEq,List.set_cons_succ,List.set_cons_zero];exact rfl) ?_
 refine gn (dm (b:=19999) (k0:=10015) (i:=2) 41 (by decide) (by decide) (by decide) rfl rfl rfl) ?_
 refine bL (L:=[1,2,4]) (by simp only [go_sem,↓reduceIte,Nat.reduceEqDiff,Nat.reduceLT,Nat.reduceLeDiff,Nat.reduceAdd,Nat.reduceSub,Nat.reduceMul,Nat.reduceBEq,Nat.reduceBNe,Nat.reducePow,Int.reduceToNat,Int.reduceLE,Int.reduceLT,Int.reduceMul,Int.reduceEq,Int.reducePow,Int.reduceAdd,Int.reduceSub,Int.reduceNeg,reduceCtorEq,List.set_cons_succ,List.set_cons_zero];exact rfl) ?_
 repeat' (first | (with_reducible refine hY _ ?_;clear hY Y) | ((with_reducible first | refine an rfl (ar fun K' hK'=>aa ?_) | refine hK' _ (ab fun Y hY=>aa ?_) | refine ab fun Y hY=>aa ?_ | refine ae tk0 aC (ab fun Y hY=>aa ?_) | refine aa ?_ | refine cV rfl (cT fun K' hK'=>aa ?_) | refine hK' _ _ (ab fun Y hY=>aa ?_) | refine eU rfl (ab fun Y hY=>aa ?_) | refine cT fun K' hK'=>aa ?_);(try clear hK' K');(try dsimp only [aop]);try simp only [go_sem,↓reduceIte,Nat.reduceEqDiff,Nat.reduceLT,Nat.reduceLeDiff,Nat.reduceAdd,Nat.reduceSub,Nat.reduceMul,Nat.reduceBEq,Nat.reduceBNe,Nat.reducePow,Int.reduceToNat,Int.reduceLE,Int.reduceLT,Int.reduceMul,Int.reduceEq,Int.reducePow,Int.reduceAdd,Int.reduceSub,Int.reduceNeg,reduceCtorEq,aC,Tryz.results18,hM',hlc]) | (with_reducible first | refine af ?_ | refine aL ?_ | refine ai ?_ | refine aj ?_ | refine ay fun K hK=>?_ | refine aq ?_ | refine al ?_ | refine av ?_ | refine bG ?_ | refine ch ?_ | refine eN fun K hK=>?_) | (with_reducible refine hK _ ?_;clear hK K) | (with_reducible refine hK _ _ ?_ ?_;(· kernel_rfl);clear hK K) | ((with_reducible first | refine aG ?_ ?_ | refine ag ?_ ?_);(· decide)) | (with_reducible refine cg tk0 aC ?_ ?_;(· kernel_rfl)) | (with_reducible refine bp ?_ ?_;(· (try and_intros) <;> first | omega | assumption | (simp only [List.length_append,List.length_map,List.length_cons,List.length_nil] <;> omega))) | (with_reducible refine ah (hga') ?_) | (with_reducible refine ah (hli') ?_) | (with_reducible refine ah (c5 hpc ?_) ?_;(· simp [cN])) | (with_reducible refine ce (cr) ?_))
 refine eu (gp (b:=10085) (t:=6) 24 (by decide) (by decide) rfl rfl) ?_
 refine bK (α:=Nat) (fun j=>[(2,.loc 10002 0),(4,.loc 10015 0),(6,.sl ((ls.take j).flatMap lnA) j (.tok 10085)),(71,.sl (ls.flatMap lnA) ls.length (.tok 19998)),(72,inA (ls.length : Int)),(73,inA (j : Int)),(10002,.bc [inA 0,.sl [] 0 .full,.sl [] 0 .full] 57),(10015,.bc [inA M,.sl (ls.flatMap lnA) ls.length (.tok 19998),.sl (CSW ++ [.sl [inA x] 1 .full]) (cs.length + 1) (.tok 19999),.c (.bool false)] 88),(10085,.bt j 24),(19998,.bt ls.length 24),(19999,.bt (cs.length + 1) 41)])
  (fun j=>j≤ls.length) (fun j=>ls.length - j) 0 [2,4,6,71,72,73] ?_ (Nat.zero_le _) ?_
 ·simp only [go_sem,↓reduceIte,Nat.reduceEqDiff,Nat.reduceLT,Nat.reduceLeDiff,Nat.reduceAdd,Nat.reduceSub,Nat.reduceMul,Nat.reduceBEq,Nat.reduceBNe,Nat.reducePow,Int.reduceToNat,Int.reduceLE,Int.reduceLT,Int.reduceMul,Int.reduceEq,Int.reducePow,Int.reduceAdd,Int.reduceSub,Int.reduceNeg,reduceCtorEq] <;> rfl
 intro j hj ih
 by_cases hlt : j < ls.length
 ·have hlt' : ((j : Int) < (ls.length : Int)) = True:=eq_true (by omega)
  have hkw:=cf (n:=j) (by omega)
  have hg0:=jo hlt
  have hfl:=ei ls
  have hcs : ((ls.take j).flatMap lnA).length = j * 2:=by rw [ei,List.length_take];omega
  have h64:=(ef (hln _ (List.getElem_mem hlt))).2.1
  have hck:=kq ls[j].t .none (.inl rfl) (by omega)
  have ih':=ih (j + 1) (by omega)  (by omega)
  rw [List.take_succ_eq_append_getElem hlt,mI] at ih'
  clear ih hln hpc hga' hli' his
  generalize ls[j] = l at *
  generalize (ls.take j).flatMap lnA = PC at *
  repeat' (first | (with_reducible refine hY _ ?_;clear hY Y) | ((with_reducible first | refine an rfl (ar fun K' hK'=>aa ?_) | refine hK' _ (ab fun Y hY=>aa ?_) | refine ab fun Y hY=>aa ?_ | refine ae tk0 aC (ab fun Y hY=>aa ?_) | refine aa ?_ | refine cV rfl (cT fun K' hK'=>aa ?_) | refine hK' _ _ (ab fun Y hY=>aa ?_));(try clear hK' K');(try dsimp only [aop]);try simp only [go_sem,↓reduceIte,Nat.reduceEqDiff,Nat.reduceLT,Nat.reduceLeDiff,Nat.reduceAdd,Nat.reduceSub,Nat.reduceMul,Nat.reduceBEq,Nat.reduceBNe,Nat.reducePow,Int.reduceToNat,Int.reduceLE,Int.reduceLT,Int.reduceMul,Int.reduceEq,Int.reducePow,Int.reduceAdd,Int.reduceSub,Int.reduceNeg,reduceCtorEq,aC,Tryz.results18,hlt',hfl,hg0,hkw,hcs]) | (with_reducible first | refine af ?_ | refine ai ?_ | refine aj ?_ | refine ay fun K hK=>?_ | refine ap ?_ | refine aU ?_ | refine al ?_ | refine av ?_ | refine ch ?_ | refine eN fun K hK=>?_) | (with_reducible refine hK _ ?_;clear hK K) | (with_reducible refine hK _ _ ?_ ?_;(· kernel_rfl);clear hK K) | ((with_reducible refine ag ?_ ?_);(· decide)) | (with_reducible refine cg tk0 aC ?_ ?_;(· kernel_rfl)) | (with_reducible refine bp ?_ ?_;(· (try and_intros) <;> first | omega | assumption | (simp only [List.length_append,List.length_map,List.length_cons,List.length_nil] <;> omega))) | (with_reducible refine ah (hck) ?_))
  refine bi [2,4,6,71,72,73] (by simp only [go_sem,↓reduceIte,Nat.reduceEqDiff,Nat.reduceLT,Nat.reduceLeDiff,Nat.reduceAdd,Nat.reduceSub,Nat.reduceMul,Nat.reduceBEq,Nat.reduceBNe,Nat.reducePow,Int.reduceToNat,Int.reduceLE,Int.reduceLT,Int.reduceMul,Int.reduceEq,Int.reducePow,Int.reduceAdd,Int.reduceSub,Int.reduceNeg,reduceCtorEq];exact rfl) ?_
  exact ih'
 ·have hlt' : ((j : Int) < (ls.length : Int)) = False:=eq_false (by omega)
  obtain rfl : j = ls.length:=by omega
  rw [List.take_of_length_le (by omega)]
  clear ih hln hpc hga' hli' his
  repeat' (first | (with_reducible refine hY _ ?_;clear hY Y) | ((with_reducible first | refine an rfl (ar fun K' hK'=>aa ?_) | refine hK' _ (ab fun Y hY=>aa ?_) | refine ab fun Y hY=>aa ?_ | refine ae tk0 aC (ab fun Y hY=>aa ?_) | refine aa ?_ | refine ao ?_);(try clear hK' K');(try dsimp only [aop]);try simp only [go_sem,↓reduceIte,Nat.reduceEqDiff,Nat.reduceLT,Nat.reduceLeDiff,Nat.reduceAdd,Nat.reduceSub,Nat.reduceMul,Nat.reduceBEq,Nat.reduceBNe,Nat.reducePow,Int.reduceToNat,Int.reduceLE,Int.reduceLT,Int.reduceMul,Int.reduceEq,Int.reducePow,Int.reduceAdd,Int.reduceSub,Int.reduceNeg,reduceCtorEq,aC,Tryz.results18,hlt']) | (with_reducible first | refine af ?_ | refine ai ?_ | refine aj ?_ | refine ay fun K hK=>?_ | refine aq ?_ | refine bC ?_ | refine bg ?_ | refine au ?_ | refine bf ?_) | (with_reducible refine hK _ ?_;clear hK K) | ((with_reducible refine ag ?_ ?_);(· decide)))
end Go.Proofs.YtmpdocplcgbpkaaGreatDoor
