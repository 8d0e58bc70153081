/- Clauses refuted, in K: rup.Check of whatever clauses and steps. A certificate checked, in K: cert.Check. -/
import Derived.Test.YtmpdocplcgbpkaaGreatDoorZ30
import Derived.Test.YtmpdocplcgbpkaaGreatDoorZ8
import Derived.Test.YtmpdocplcgbpkaaGreatDoorZ29
namespace Go.Proofs.YtmpdocplcgbpkaaGreatDoor
set_option linter.unusedSimpArgs false
set_option linter.unusedVariables false
open Go.RowKit
def bE : Nat→List Nat
 | 0=>[0,1,2]
 | 1=>[0,1,2]
 | 2=>[0,1,2,7]
 | 3=>[7]
 | 4=>[0,1,2]
 | 5=>[0,1,2,8]
 | 6=>[0,1,2,8,9]
 | 7=>[9]
 | 8=>[0,1,2,8]
 | 9=>[0,1,8,34,35,36]
 | 10=>[0,1,8,34,35,36]
 | 11=>[0,1,8,10,11,34,35,36]
 | 12=>[0,1,8,10,11,12,34,35,36]
 | 13=>[0,1,8,10,12,34,35,36,41,42,43]
 | 14=>[0,1,8,10,12,34,35,36,41,42,43]
 | 15=>[0,1,8,10,12,14,34,35,36,41,42,43]
 | 16=>[0,1,8,10,12,34,35,36,41,42,43]
 | 17=>[0,1,8,10,12,34,35,36]
 | 18=>[0,1,8,10,16,17,34,35,36]
 | 19=>[10]
 | 20=>[0,1,8,34,35,36]
 | 21=>[8]
 | 22=>[]
 | 23=>[]
 | _=>[]
theorem qR : aM Tryz.prog 44 = true:=by kernel_rfl
theorem xS : b9 9 = .ifc 50 (.c (.int .i64 9)):=rfl
theorem xR : b9 8 = .ifc 50 (.c (.int .i64 8)):=rfl
theorem kX (e : Nat) : eA e (-1) = b9 e:=rfl
theorem Ao (i : Nat) : eA 9 (i : Int) = .ifc 61 (.rf [.c (.int .i64 (i : Int)),.ifc 50 (.c (.int .i64 9))] 0):=by
 unfold eA
 rw [if_neg (by omega)];rfl
theorem uP {c : List Int} {j : Nat} (h : j < c.length) : (kc (c.take (j + 1))).map inA = (kc (c.take j)).map inA ++ [inA (-c[j])]:=by
 unfold kc
 rw [List.take_succ_eq_append_getElem h,List.map_append,List.map_append];rfl
theorem tP (n : Int) (cls steps : List (List Int)) : pI n cls steps = if c4 n cls ≠ 0 then (c4 n cls,-1) else if c4 n (cls ++ steps) ≠ 0 then (c4 n (cls ++ steps),-1)
 else if (kL n.toNat (cls ++ steps) cls.length steps 0).1 ≠ 0 then kL n.toNat (cls ++ steps) cls.length steps 0
 else if (cls ++ steps).any (fun c=>decide (c.length = 0)) then (0,-1) else (8,-1):=rfl
set_option maxRecDepth 100000 in
set_option maxHeartbeats 16000000 in
theorem Bx (n : Int) (cls steps : List (List Int)) (hL : cls.length + steps.length≤1000000) (hc1 : ∀ c ∈ cls,Lg c) (hc2 : ∀ c ∈ steps,Lg c) :
  AFn Tryz.prog 20 [inA n,csA cls,csA steps] [] (eA (pI n cls steps).1 (pI n cls steps).2) []:=by
 have hE:=tP n cls steps
 have hp1:=kI n cls (by unfold Lg;omega) hc1
 have hp2:=kI n (cls ++ steps) (by unfold Lg;rw [List.length_append];omega) (fun c hc=>(List.mem_append.1 hc).elim (hc1 c) (hc2 c))
 have hcc:=uq cls steps hL
 have hal : (cls ++ steps).length = cls.length + steps.length:=List.length_append
 by_cases h1 : c4 n cls ≠ 0
 ·rw [if_pos h1] at hE
  rw [hE]
  simp only
  rw [kX]
  generalize c4 n cls = e at *
  rw [cK h1] at hp1 ⊢
  clear hE
  refine aD [] Tryz.func20 rfl Tryz.ntmps20 (Nat.le_of_ble_eq_true rfl) (Nat.le_of_ble_eq_true rfl) fun w0 G0 B0 Pr hB0=>?_
  simp only [aO,aA,List.cons_append,List.nil_append]
  repeat' (first | (with_reducible refine hY _ ?_;clear hY Y) | ((with_reducible first | refine an rfl (ar fun K' hK'=>aa ?_) | refine hK' _ (ab fun Y hY=>aa ?_) | refine ab fun Y hY=>aa ?_ | refine ae tk0 bE (ab fun Y hY=>aa ?_) | refine aa ?_ | refine ao ?_);(try clear hK' K');(try dsimp only [aop]);try simp only [go_sem,↓reduceIte,Nat.reduceEqDiff,Nat.reduceLT,Nat.reduceLeDiff,Nat.reduceAdd,Nat.reduceSub,Nat.reduceMul,Nat.reduceBEq,Nat.reduceBNe,Nat.reducePow,Int.reduceToNat,Int.reduceLE,Int.reduceLT,Int.reduceMul,Int.reduceEq,Int.reducePow,Int.reduceAdd,Int.reduceSub,Int.reduceNeg,reduceCtorEq,bE,Tryz.results20]) | (with_reducible first | refine af ?_ | refine ai ?_ | refine aj ?_ | refine ay fun K hK=>?_ | refine ap ?_ | refine aS ?_ | refine au ?_) | (with_reducible refine hK _ ?_;clear hK K) | ((with_reducible refine ag ?_ ?_);(· decide)) | (with_reducible refine ah (hp1) ?_))
 rw [if_neg h1] at hE
 rw [Decidable.not_not] at h1
 rw [h1,cR] at hp1
 by_cases h2 : c4 n (cls ++ steps) ≠ 0
 ·rw [if_pos h2] at hE
  rw [hE]
  simp only
  rw [kX]
  generalize c4 n (cls ++ steps) = e at *
  rw [cK h2] at hp2 ⊢
  generalize cls ++ steps = all at *
  clear hE
  refine aD [] Tryz.func20 rfl Tryz.ntmps20 (Nat.le_of_ble_eq_true rfl) (Nat.le_of_ble_eq_true rfl) fun w0 G0 B0 Pr hB0=>?_
  simp only [aO,aA,List.cons_append,List.nil_append]
  repeat' (first | (with_reducible refine hY _ ?_;clear hY Y) | ((with_reducible first | refine an rfl (ar fun K' hK'=>aa ?_) | refine hK' _ (ab fun Y hY=>aa ?_) | refine ab fun Y hY=>aa ?_ | refine ae tk0 bE (ab fun Y hY=>aa ?_) | refine aa ?_ | refine ao ?_);(try clear hK' K');(try dsimp only [aop]);try simp only [go_sem,↓reduceIte,Nat.reduceEqDiff,Nat.reduceLT,Nat.reduceLeDiff,Nat.reduceAdd,Nat.reduceSub,Nat.reduceMul,Nat.reduceBEq,Nat.reduceBNe,Nat.reducePow,Int.reduceToNat,Int.reduceLE,Int.reduceLT,Int.reduceMul,Int.reduceEq,Int.reducePow,Int.reduceAdd,Int.reduceSub,Int.reduceNeg,reduceCtorEq,bE,Tryz.results20]) | (with_reducible first | refine af ?_ | refine ai ?_ | refine aj ?_ | refine ay fun K hK=>?_ | refine ap ?_ | refine aq ?_ | refine aS ?_ | refine av ?_ | refine au ?_) | (with_reducible refine hK _ ?_;clear hK K) | ((with_reducible refine ag ?_ ?_);(· decide)) | (with_reducible refine ah (hp1) ?_) | (with_reducible refine ah (hcc) ?_) | (with_reducible refine ah (hp2) ?_) | (with_reducible refine ce (cr) ?_))
 rw [if_neg h2] at hE
 rw [Decidable.not_not] at h2
 rw [h2,cR] at hp2
 obtain ⟨⟨hn0,hn1⟩,hcl,hsum,hlits⟩:=jb h2
 have hch:=fun k=>qd h2 k
 have hsb : ∀ c ∈ steps,c.length≤131072:=fun c hc=>Nat.le_trans (io (List.mem_append.2 (.inr hc))) hsum
 have hst : ∀ c ∈ steps,∀ l ∈ c,OkL n.toNat l:=fun c hc=>hlits c (List.mem_append.2 (.inr hc))
 have hfo:=fun (k i : Nat) (hi : i < steps.length)=>wd n.toNat ((cls ++ steps).take k) (kc steps[i]) (by rw [show ((n.toNat : Nat) : Int) = n by omega];exact hch k) (tJ (hst _ (List.getElem_mem hi))) (by
  have : steps[i].length≤fi (cls ++ steps):=io (List.mem_append.2 (.inr (List.getElem_mem hi)))
  unfold kc;rw [List.length_map];omega)
 rw [show ((n.toNat : Nat) : Int) = n by omega] at hfo
 have hro:=Ax (cls ++ steps) 44 (fun c=>decide (c.length = 0)) qR (by unfold Lg;omega) fun y _=>A5 y
 have hr1:=qR
 have hR0 : kL n.toNat (cls ++ steps) cls.length (steps.drop 0) 0 = kL n.toNat (cls ++ steps) cls.length steps 0:=by rw [List.drop_zero]
 generalize kL n.toNat (cls ++ steps) cls.length steps 0 = R at *
 generalize hAll : cls ++ steps = all at *
 clear h1 h2 hch hsum hlits hc1
 generalize hX : pI n cls steps = X at *
 refine aD [] Tryz.func20 rfl Tryz.ntmps20 (Nat.le_of_ble_eq_true rfl) (Nat.le_of_ble_eq_true rfl) fun w0 G0 B0 Pr hB0=>?_
 simp only [aO,aA,List.cons_append,List.nil_append]
 repeat' (first | (with_reducible refine hY _ ?_;clear hY Y) | ((with_reducible first | refine an rfl (ar fun K' hK'=>aa ?_) | refine hK' _ (ab fun Y hY=>aa ?_) | refine ab fun Y hY=>aa ?_ | refine ae tk0 bE (ab fun Y hY=>aa ?_) | refine aa ?_);(try clear hK' K');(try dsimp only [aop]);try simp only [go_sem,↓reduceIte,Nat.reduceEqDiff,Nat.reduceLT,Nat.reduceLeDiff,Nat.reduceAdd,Nat.reduceSub,Nat.reduceMul,Nat.reduceBEq,Nat.reduceBNe,Nat.reducePow,Int.reduceToNat,Int.reduceLE,Int.reduceLT,Int.reduceMul,Int.reduceEq,Int.reducePow,Int.reduceAdd,Int.reduceSub,Int.reduceNeg,reduceCtorEq,bE,Tryz.results20]) | (with_reducible first | refine af ?_ | refine ai ?_ | refine aj ?_ | refine ay fun K hK=>?_ | refine aq ?_ | refine al ?_ | refine av ?_ | refine bG ?_) | (with_reducible refine hK _ ?_;clear hK K) | ((with_reducible refine ag ?_ ?_);(· decide)) | (with_reducible refine ah (hp1) ?_) | (with_reducible refine ah (hcc) ?_) | (with_reducible refine ah (hp2) ?_) | (with_reducible refine ce (cr) ?_))
 clear hp1 hp2 hcc
 refine bK (α:=Nat) (fun i=>[(0,inA n),(1,csA cls),(8,csA all),(34,csA steps),(35,inA (steps.length : Int)),(36,inA (i : Int))])
  (fun i=>i≤steps.length∧kL n.toNat all cls.length (steps.drop i) i = R) (fun i=>steps.length - i) 0 [0,1,8,34,35,36] ?_ ⟨Nat.zero_le _,hR0⟩ ?_
 ·simp only [go_sem,↓reduceIte,Nat.reduceEqDiff,Nat.reduceLT,Nat.reduceLeDiff,Nat.reduceAdd,Nat.reduceSub,Nat.reduceMul,Nat.reduceBEq,Nat.reduceBNe,Nat.reducePow,Int.reduceToNat,Int.reduceLE,Int.reduceLT,Int.reduceMul,Int.reduceEq,Int.reducePow,Int.reduceAdd,Int.reduceSub,Int.reduceNeg,reduceCtorEq] <;> rfl
 clear hR0
 rintro i ⟨hi,hRi⟩ ih
 by_cases hlt : i < steps.length
 ·have hlt' : ((i : Int) < (steps.length : Int)) = True:=eq_true (by omega)
  have hkw:=cf (n:=i) (by omega)
  have hg0:=ly hlt
  have hfl : (steps.map dr).length = steps.length:=List.length_map ..
  have hfl2 : (all.map dr).length = all.length:=List.length_map ..
  have hF:=hfo (cls.length + i) i hlt
  have hscl:=hsb _ (List.getElem_mem hlt)
  have hsl:=hst _ (List.getElem_mem hlt)
  rw [uX hlt] at hRi
  have ihx:=fun e=>ih (i + 1) ⟨by omega,e⟩ (by omega)
  clear ih hfo hst hc2 hsb
  have hm : (all.take (cls.length + i)).length = cls.length + i:=by rw [List.length_take];omega
  have hmm : (all.take (cls.length + i)).map dr = (all.map dr).take (cls.length + i):=List.map_take
  have hwa:=eK (a:=cls.length) (b:=i) (by omega)
  have hmi : ((cls.length + i : Nat) : Int).toNat = cls.length + i:=Int.toNat_natCast _
  have hle : (((cls.length + i : Nat) : Int)≤(all.length : Int)) = True:=eq_true (by omega)
  simp only [csA] at hF
  rw [hm,hmm] at hF
  generalize gN n.toNat (all.take (cls.length + i)) (kc steps[i]) = Q at *
  generalize steps[i] = c at *
  have hoc : (kc c).length = c.length:=List.length_map ..
  simp only [dr] at hF
  rw [hoc] at hF
  generalize cls.length + i = m at *
  repeat' (first | (with_reducible refine hY _ ?_;clear hY Y) | ((with_reducible first | refine an rfl (ar fun K' hK'=>aa ?_) | refine hK' _ (ab fun Y hY=>aa ?_) | refine ab fun Y hY=>aa ?_ | refine ae tk0 bE (ab fun Y hY=>aa ?_));(try clear hK' K');(try dsimp only [aop]);try simp only [go_sem,↓reduceIte,Nat.reduceEqDiff,Nat.reduceLT,Nat.reduceLeDiff,Nat.reduceAdd,Nat.reduceSub,Nat.reduceMul,Nat.reduceBEq,Nat.reduceBNe,Nat.reducePow,Int.reduceToNat,Int.reduceLE,Int.reduceLT,Int.reduceMul,Int.reduceEq,Int.reducePow,Int.reduceAdd,Int.reduceSub,Int.reduceNeg,reduceCtorEq,bE,Tryz.results20,hlt',hg0,hfl]) | (with_reducible first | refine af ?_ | refine ai ?_ | refine aj ?_ | refine ay fun K hK=>?_ | refine ap ?_ | refine al ?_ | refine av ?_ | refine bG ?_) | (with_reducible refine hK _ ?_;clear hK K) | ((with_reducible refine ag ?_ ?_);(· decide)) | (with_reducible refine bp ?_ ?_;(· (try and_intros) <;> first | omega | assumption | (simp only [List.length_append,List.length_map,List.length_cons,List.length_nil] <;> omega))))
  refine eu (gp (b:=10051) (t:=12) 3 (by decide) (by decide) rfl rfl) ?_
  refine bK (α:=Nat) (fun j=>[(0,inA n),(1,csA cls),(8,csA all),(10,inA (i : Int)),(12,.sl ((kc (c.take j)).map inA) j (.tok 10051)),(34,csA steps),(35,inA (steps.length : Int)),(36,inA (i : Int)),(41,dr c),(42,inA (c.length : Int)),(43,inA (j : Int)),(10051,.bt j 3)])
   (fun j=>j≤c.length) (fun j=>c.length - j) 0 [0,1,8,10,12,34,35,36,41,42,43] ?_ (Nat.zero_le _) ?_
  ·simp only [go_sem,↓reduceIte,Nat.reduceEqDiff,Nat.reduceLT,Nat.reduceLeDiff,Nat.reduceAdd,Nat.reduceSub,Nat.reduceMul,Nat.reduceBEq,Nat.reduceBNe,Nat.reducePow,Int.reduceToNat,Int.reduceLE,Int.reduceLT,Int.reduceMul,Int.reduceEq,Int.reducePow,Int.reduceAdd,Int.reduceSub,Int.reduceNeg,reduceCtorEq] <;> rfl
  intro j hj ihj
  by_cases hjl : j < c.length
  ·have hjl' : ((j : Int) < (c.length : Int)) = True:=eq_true (by omega)
   have hjw:=cf (n:=j) (by omega)
   have hgj:=tq hjl
   have hcl2 : (c.map inA).length = c.length:=List.length_map ..
   have hzl:=hsl _ (List.getElem_mem hjl)
   have hng : IntKind.i64.wrap (0 - c[j]) = -c[j]:=by rw [aY (by have:=hzl.2;omega) (by have:=hzl.2;omega)];omega
   have hng2 : IntKind.i64.wrap (-c[j]) = -c[j]:=aY (by have:=hzl.2;omega) (by have:=hzl.2;omega)
   have hol : ((kc (c.take j)).map inA).length = j:=by rw [List.length_map];unfold kc;rw [List.length_map,List.length_take];omega
   have ih':=ihj (j + 1) (by omega) (by omega)
   rw [uP hjl] at ih'
   clear ihj ihx hF hsl
   generalize (kc (c.take j)).map inA = O at *
   generalize c[j] = z at *
   repeat' (first | (with_reducible refine hY _ ?_;clear hY Y) | ((with_reducible first | refine an rfl (ar fun K' hK'=>aa ?_) | refine hK' _ (ab fun Y hY=>aa ?_) | refine ab fun Y hY=>aa ?_ | refine ae tk0 bE (ab fun Y hY=>aa ?_));(try clear hK' K');(try dsimp only [aop]);try simp only [go_sem,↓reduceIte,Nat.reduceEqDiff,Nat.reduceLT,Nat.reduceLeDiff,Nat.reduceAdd,Nat.reduceSub,Nat.reduceMul,Nat.reduceBEq,Nat.reduceBNe,Nat.reducePow,Int.reduceToNat,Int.reduceLE,Int.reduceLT,Int.reduceMul,Int.reduceEq,Int.reducePow,Int.reduceAdd,Int.reduceSub,Int.reduceNeg,reduceCtorEq,bE,Tryz.results20,hjl',hgj,hcl2,hng,hng2,hol,hjw]) | (with_reducible first | refine af ?_ | refine ai ?_ | refine aj ?_ | refine ay fun K hK=>?_ | refine ap ?_ | refine aU ?_ | refine al ?_ | refine av ?_) | (with_reducible refine hK _ ?_;clear hK K) | ((with_reducible refine ag ?_ ?_);(· decide)) | (with_reducible refine bp ?_ ?_;(· (try and_intros) <;> first | omega | assumption | (simp only [List.length_append,List.length_map,List.length_cons,List.length_nil] <;> omega))))
   refine bi [0,1,8,10,12,34,35,36,41,42,43] (by simp only [go_sem,↓reduceIte,Nat.reduceEqDiff,Nat.reduceLT,Nat.reduceLeDiff,Nat.reduceAdd,Nat.reduceSub,Nat.reduceMul,Nat.reduceBEq,Nat.reduceBNe,Nat.reducePow,Int.reduceToNat,Int.reduceLE,Int.reduceLT,Int.reduceMul,Int.reduceEq,Int.reducePow,Int.reduceAdd,Int.reduceSub,Int.reduceNeg,reduceCtorEq];exact rfl) ?_
   exact ih'
  ·have hjl' : ((j : Int) < (c.length : Int)) = False:=eq_false (by omega)
   obtain rfl : j = c.length:=by omega
   rw [List.take_of_length_le (by omega)]
   clear ihj
   obtain ⟨b,s⟩:=Q
   obtain ⟨a,pre,q,v⟩:=s
   cases b with
   | true =>
    rw [if_pos rfl] at hRi
    obtain rfl : R = (9,(i : Int)):=hRi.symm
    rw [if_pos (show (9 : Nat) ≠ 0 by decide)] at hE
    rw [hE]
    simp only
    rw [Ao]
    rw [nP] at hF
    clear ihx hE hX
    repeat' (first | (with_reducible refine hY _ ?_;clear hY Y) | ((with_reducible first | refine an rfl (ar fun K' hK'=>aa ?_) | refine hK' _ (ab fun Y hY=>aa ?_) | refine bl rfl (ab fun Y hY=>aa ?_) | refine ab fun Y hY=>aa ?_ | refine ar fun K' hK'=>aa ?_ | refine ae tk0 bE (ab fun Y hY=>aa ?_) | refine aa ?_ | refine ao ?_);(try clear hK' K');(try dsimp only [aop]);try simp only [go_sem,↓reduceIte,Nat.reduceEqDiff,Nat.reduceLT,Nat.reduceLeDiff,Nat.reduceAdd,Nat.reduceSub,Nat.reduceMul,Nat.reduceBEq,Nat.reduceBNe,Nat.reducePow,Int.reduceToNat,Int.reduceLE,Int.reduceLT,Int.reduceMul,Int.reduceEq,Int.reducePow,Int.reduceAdd,Int.reduceSub,Int.reduceNeg,reduceCtorEq,bE,Tryz.results20,hjl',hwa,hmi,hle]) | (with_reducible first | refine af ?_ | refine aL ?_ | refine ai ?_ | refine aj ?_ | refine ay fun K hK=>?_ | refine ap ?_ | refine aq ?_ | refine bC ?_ | refine aS ?_ | refine bb ?_ | refine bg ?_ | refine au ?_ | refine bf ?_) | (with_reducible refine hK _ ?_;clear hK K) | ((with_reducible first | refine aG ?_ ?_ | refine ag ?_ ?_);(· decide)) | (with_reducible refine bp ?_ ?_;(· (try and_intros) <;> first | omega | assumption | (simp only [List.length_append,List.length_map,List.length_cons,List.length_nil] <;> omega))) | (with_reducible refine ah (c5 hF ?_) ?_;(· simp [cN])) | (with_reducible refine ce (cr) ?_))
   | false =>
    rw [if_neg (by simp)] at hRi
    rw [jC] at hF
    have ih':=ihx hRi
    clear ihx
    repeat' (first | (with_reducible refine hY _ ?_;clear hY Y) | ((with_reducible first | refine an rfl (ar fun K' hK'=>aa ?_) | refine hK' _ (ab fun Y hY=>aa ?_) | refine bl rfl (ab fun Y hY=>aa ?_) | refine ab fun Y hY=>aa ?_ | refine ar fun K' hK'=>aa ?_ | refine ae tk0 bE (ab fun Y hY=>aa ?_) | refine aa ?_);(try clear hK' K');(try dsimp only [aop]);try simp only [go_sem,↓reduceIte,Nat.reduceEqDiff,Nat.reduceLT,Nat.reduceLeDiff,Nat.reduceAdd,Nat.reduceSub,Nat.reduceMul,Nat.reduceBEq,Nat.reduceBNe,Nat.reducePow,Int.reduceToNat,Int.reduceLE,Int.reduceLT,Int.reduceMul,Int.reduceEq,Int.reducePow,Int.reduceAdd,Int.reduceSub,Int.reduceNeg,reduceCtorEq,bE,Tryz.results20,hjl',hwa,hmi,hle,hkw]) | (with_reducible first | refine af ?_ | refine aL ?_ | refine ai ?_ | refine aj ?_ | refine ay fun K hK=>?_ | refine aq ?_ | refine bC ?_ | refine aU ?_ | refine bg ?_ | refine av ?_ | refine bf ?_) | (with_reducible refine hK _ ?_;clear hK K) | ((with_reducible first | refine aG ?_ ?_ | refine ag ?_ ?_);(· decide)) | (with_reducible refine bp ?_ ?_;(· (try and_intros) <;> first | omega | assumption | (simp only [List.length_append,List.length_map,List.length_cons,List.length_nil] <;> omega))) | (with_reducible refine ah (c5 hF ?_) ?_;(· simp [cN])) | (with_reducible refine ce (cr) ?_))
    refine bi [0,1,8,34,35,36] (by simp only [go_sem,↓reduceIte,Nat.reduceEqDiff,Nat.reduceLT,Nat.reduceLeDiff,Nat.reduceAdd,Nat.reduceSub,Nat.reduceMul,Nat.reduceBEq,Nat.reduceBNe,Nat.reducePow,Int.reduceToNat,Int.reduceLE,Int.reduceLT,Int.reduceMul,Int.reduceEq,Int.reducePow,Int.reduceAdd,Int.reduceSub,Int.reduceNeg,reduceCtorEq];exact rfl) ?_
    exact ih'
 ·have hlt' : ((i : Int) < (steps.length : Int)) = False:=eq_false (by omega)
  rw [List.drop_eq_nil_of_le (by omega)] at hRi
  obtain rfl : R = (0,-1):=hRi.symm
  rw [if_neg (by decide)] at hE
  rw [hE]
  clear ih hfo hst hE hX
  generalize all.any (fun c=>decide (c.length = 0)) = B at *
  cases B with
  | true =>
   rw [if_pos rfl]
   have e0 : eA ((0,-1) : Nat × Int).1 ((0,-1) : Nat × Int).2 = .c .nilIface:=rfl
   rw [e0]
   repeat' (first | (with_reducible refine hY _ ?_;clear hY Y) | ((with_reducible first | refine an rfl (ar fun K' hK'=>aa ?_) | refine hK' _ (ab fun Y hY=>aa ?_) | refine ab fun Y hY=>aa ?_ | refine ae tk0 bE (ab fun Y hY=>aa ?_) | refine aa ?_ | refine ao ?_);(try clear hK' K');(try dsimp only [aop]);try simp only [go_sem,↓reduceIte,Nat.reduceEqDiff,Nat.reduceLT,Nat.reduceLeDiff,Nat.reduceAdd,Nat.reduceSub,Nat.reduceMul,Nat.reduceBEq,Nat.reduceBNe,Nat.reducePow,Int.reduceToNat,Int.reduceLE,Int.reduceLT,Int.reduceMul,Int.reduceEq,Int.reducePow,Int.reduceAdd,Int.reduceSub,Int.reduceNeg,reduceCtorEq,bE,Tryz.results20,hlt',hr1]) | (with_reducible first | refine af ?_ | refine ai ?_ | refine aj ?_ | refine ay fun K hK=>?_ | refine aq ?_ | refine bC ?_ | refine bg ?_ | refine av ?_ | refine au ?_ | refine bf ?_) | (with_reducible refine hK _ ?_;clear hK K) | ((with_reducible refine ag ?_ ?_);(· decide)) | (with_reducible refine ah (hro) ?_))
  | false =>
   rw [if_neg (by decide)]
   simp only
   rw [kX,xR]
   repeat' (first | (with_reducible refine hY _ ?_;clear hY Y) | ((with_reducible first | refine an rfl (ar fun K' hK'=>aa ?_) | refine hK' _ (ab fun Y hY=>aa ?_) | refine ab fun Y hY=>aa ?_ | refine ae tk0 bE (ab fun Y hY=>aa ?_) | refine aa ?_ | refine ao ?_);(try clear hK' K');(try dsimp only [aop]);try simp only [go_sem,↓reduceIte,Nat.reduceEqDiff,Nat.reduceLT,Nat.reduceLeDiff,Nat.reduceAdd,Nat.reduceSub,Nat.reduceMul,Nat.reduceBEq,Nat.reduceBNe,Nat.reducePow,Int.reduceToNat,Int.reduceLE,Int.reduceLT,Int.reduceMul,Int.reduceEq,Int.reducePow,Int.reduceAdd,Int.reduceSub,Int.reduceNeg,reduceCtorEq,bE,Tryz.results20,hlt',hr1]) | (with_reducible first | refine af ?_ | refine ai ?_ | refine aj ?_ | refine ay fun K hK=>?_ | refine ap ?_ | refine aq ?_ | refine bC ?_ | refine aS ?_ | refine bg ?_ | refine au ?_ | refine bf ?_) | (with_reducible refine hK _ ?_;clear hK K) | ((with_reducible refine ag ?_ ?_);(· decide)) | (with_reducible refine ah (hro) ?_))
end Go.Proofs.YtmpdocplcgbpkaaGreatDoor
namespace Go.Proofs.YtmpdocplcgbpkaaGreatDoor
set_option linter.unusedSimpArgs false
set_option linter.unusedVariables false
open Go.RowKit
theorem tM (cs : List (List Int)) (k : Nat) : (cs.map dr).map (wkD (k + 1)) = cs.map dr:=by
 rw [List.map_map]
 refine List.map_congr_left fun c _=>?_
 show AV.sl ((c.map inA).map (wkD k)) c.length .none = _
 have h : (c.map inA).map (wkD k) = c.map inA:=by
  rw [List.map_map]
  exact List.map_congr_left fun x _=>by cases k <;> rfl
 rw [h]
abbrev kF (ms : List Lem) : List AV:=ms.map fun l=>dr l.lits
theorem uJ {ms : List Lem} {i : Nat} (h : i < ms.length) : kF (ms.take (i + 1)) = kF (ms.take i) ++ [dr ms[i].lits]:=by
 unfold kF
 rw [List.take_succ_eq_append_getElem h,List.map_append];rfl
theorem yO (ms : List Lem) : kF ms = (ms.map (·.lits)).map dr:=by rw [List.map_map];rfl
theorem qb (f : Fo) (c : Crt) : kp f c = if (c7 f).1 ≠ 0 then ((c7 f).1,-1)
 else if (dF (c7 f).2).1 ≠ 0 then ((dF (c7 f).2).1,-1)
 else if 4096 < c.lems.length then (2,-1)
 else if (gS (dF (c7 f).2).2.2.1 c.lems 0).1 ≠ 0 then gS (dF (c7 f).2).2.2.1 c.lems 0
 else pI (dF (c7 f).2).2.1 ((dF (c7 f).2).2.2.2 ++ c.lems.map (·.lits)) c.refute:=rfl
theorem A4 {e : Nat} (h : e ≠ 0) (n : Int) (ls : List Ln) (cs : List (List Int)) : qP (e,n,ls,cs) = .tup [.agg [inA n,.sl (ls.flatMap lnA) ls.length .none,.sl (cs.map dr) cs.length .none],.ifc 50 (.c (.int .i64 (e : Int)))]:=by
 unfold qP
 rw [cK h]
theorem xW {e : Nat} (h : e ≠ 0) (i : Nat) : eA e (i : Int) = .ifc 61 (.rf [.c (.int .i64 (i : Int)),.ifc 50 (.c (.int .i64 (e : Int)))] 0):=by
 unfold eA
 rw [if_neg (by omega)]
 unfold iy
 rw [cK h]
theorem zg (g : List (Nat × Nat)) (e : Nat) (z : Int) : ren g 4 (eA e z) = eA e z:=by
 unfold eA
 split
 ·exact w4 g 2 e
 ·unfold iy
  rfl
theorem x4 (ex : List Nat) (σ : bv) (e : Nat) (z : Int) : eX ex σ 8 (eA e z) = eA e z:=by
 unfold eA
 split
 ·unfold b9
  split <;> rfl
 ·unfold iy b9
  rfl
def bN : Nat→List Nat
 | 0=>[0,1]
 | 1=>[2,3]
 | 2=>[3,5,6]
 | 3=>[6]
 | 4=>[3,5]
 | 5=>[3,6,7]
 | 6=>[6]
 | 7=>[3,7]
 | 8=>[]
 | 9=>[3,7]
 | 10=>[3,7,8]
 | 11=>[3,7,8,38,39,40]
 | 12=>[3,7,8,38,39,40]
 | 13=>[3,7,8,9,10,38,39,40]
 | 14=>[3,7,8,9,10,11,38,39,40]
 | 15=>[9,11]
 | 16=>[3,7,8,10,38,39,40]
 | 17=>[3,7,8,38,39,40]
 | 18=>[3,7,8]
 | _=>[]
set_option maxRecDepth 100000 in
set_option maxHeartbeats 16000000 in
theorem rS (f : Fo) (c : Crt) (hok : OkF f) (hl : ∀ l ∈ c.lems,l.lits.length≤100000∧pW l.steps) (h1 : c.lems.length≤100000) (h2 : c.refute.length≤100000) (h3 : ∀ r ∈ c.refute,Lg r) :
  AFn Tryz.prog 8 [.agg (foA f),.agg [mD c.lems,csA c.refute]] [] (eA (kp f c).1 (kp f c).2) []:=by
 obtain ⟨ms,rs⟩:=c
 simp only at hl h1 h2 h3
 have hE:=qb f ⟨ms,rs⟩
 simp only at hE
 have hn:=uO f hok
 have hokn:=qD hok
 generalize kp f ⟨ms,rs⟩ = X at *
 generalize c7 f = q at *
 obtain ⟨e,n⟩:=q
 obtain ⟨fk,⟨fc,ft⟩,fks⟩:=f
 rw [cH] at hn ⊢
 clear hok
 simp only at hE hokn
 by_cases he : e ≠ 0
 ·rw [if_pos he] at hE
  rw [hE]
  simp only
  rw [kX,cK he]
  unfold gL at hn
  rw [cK he] at hn
  clear hE hokn
  obtain ⟨nk,⟨nc,nt⟩,nks⟩:=n
  simp only [cH] at hn
  refine aD [] Tryz.func8 rfl Tryz.ntmps8 (Nat.le_of_ble_eq_true rfl) (Nat.le_of_ble_eq_true rfl) fun w0 G0 B0 Pr hB0=>?_
  simp only [aO,aA,List.cons_append,List.nil_append]
  repeat' (first | (with_reducible refine hY _ ?_;clear hY Y) | ((with_reducible first | refine an rfl (ar fun K' hK'=>aa ?_) | refine hK' _ (ab fun Y hY=>aa ?_) | refine ab fun Y hY=>aa ?_ | refine ae tk0 bN (ab fun Y hY=>aa ?_) | refine aa ?_ | refine ao ?_);(try clear hK' K');(try dsimp only [aop]);try simp only [go_sem,↓reduceIte,Nat.reduceEqDiff,Nat.reduceLT,Nat.reduceLeDiff,Nat.reduceAdd,Nat.reduceSub,Nat.reduceMul,Nat.reduceBEq,Nat.reduceBNe,Nat.reducePow,Int.reduceToNat,Int.reduceLE,Int.reduceLT,Int.reduceMul,Int.reduceEq,Int.reducePow,Int.reduceAdd,Int.reduceSub,Int.reduceNeg,reduceCtorEq,bN,Tryz.results8]) | (with_reducible first | refine af ?_ | refine ai ?_ | refine aj ?_ | refine ay fun K hK=>?_ | refine ap ?_ | refine aS ?_ | refine au ?_) | (with_reducible refine hK _ ?_;clear hK K) | ((with_reducible refine ag ?_ ?_);(· decide)) | (with_reducible refine ah (hn) ?_))
 rw [if_neg he] at hE
 rw [Decidable.not_not] at he
 subst he
 unfold gL at hn
 rw [cR] at hn
 have hF:=yQ n hokn
 have hT:=yR n hokn
 have h0:=l9 (f:=n)
 have ha:=qB (f:=n)
 generalize dF n = q at *
 generalize mL n = W at *
 obtain ⟨e,N,ls,cls⟩:=q
 simp only at hE hF hT h0 ha
 clear hokn
 obtain ⟨nk,⟨nc,nt⟩,nks⟩:=n
 simp only [cH] at hn hF hT
 by_cases he : e ≠ 0
 ·rw [if_pos he] at hE
  rw [hE]
  simp only
  rw [kX,cK he]
  rw [A4 he] at hF
  clear hE hT h0 ha
  refine aD [] Tryz.func8 rfl Tryz.ntmps8 (Nat.le_of_ble_eq_true rfl) (Nat.le_of_ble_eq_true rfl) fun w0 G0 B0 Pr hB0=>?_
  simp only [aO,aA,List.cons_append,List.nil_append]
  repeat' (first | (with_reducible refine hY _ ?_;clear hY Y) | ((with_reducible first | refine an rfl (ar fun K' hK'=>aa ?_) | refine hK' _ (ab fun Y hY=>aa ?_) | refine ab fun Y hY=>aa ?_ | refine ae tk0 bN (ab fun Y hY=>aa ?_) | refine aa ?_ | refine ao ?_);(try clear hK' K');(try dsimp only [aop]);try simp only [go_sem,↓reduceIte,Nat.reduceEqDiff,Nat.reduceLT,Nat.reduceLeDiff,Nat.reduceAdd,Nat.reduceSub,Nat.reduceMul,Nat.reduceBEq,Nat.reduceBNe,Nat.reducePow,Int.reduceToNat,Int.reduceLE,Int.reduceLT,Int.reduceMul,Int.reduceEq,Int.reducePow,Int.reduceAdd,Int.reduceSub,Int.reduceNeg,reduceCtorEq,bN,Tryz.results8]) | (with_reducible first | refine af ?_ | refine ai ?_ | refine aj ?_ | refine ay fun K hK=>?_ | refine ap ?_ | refine aq ?_ | refine aS ?_ | refine bb ?_ | refine al ?_ | refine av ?_ | refine au ?_) | (with_reducible refine hK _ ?_;clear hK K) | ((with_reducible refine ag ?_ ?_);(· decide)) | (with_reducible refine ah (hn) ?_) | (with_reducible refine ce (cr) ?_) | (with_reducible refine ah (hF) ?_))
 rw [if_neg he] at hE
 rw [Decidable.not_not] at he
 have hT2:=hT he
 clear hT
 obtain ⟨_,_,_,hcls,hN,hP⟩:=h0 he
 obtain ⟨ha1,ha2⟩:=ha he
 clear h0 ha hF
 subst he
 by_cases hm : 4096 < ms.length
 ·rw [if_pos hm] at hE
  rw [hE]
  simp only
  rw [kX,gZ]
  have hm' : ((4096 : Int) < (ms.length : Int)) = True:=eq_true (by omega)
  clear hE
  refine aD [] Tryz.func8 rfl Tryz.ntmps8 (Nat.le_of_ble_eq_true rfl) (Nat.le_of_ble_eq_true rfl) fun w0 G0 B0 Pr hB0=>?_
  simp only [aO,aA,List.cons_append,List.nil_append]
  repeat' (first | (with_reducible refine hY _ ?_;clear hY Y) | ((with_reducible first | refine an rfl (ar fun K' hK'=>aa ?_) | refine hK' _ (ab fun Y hY=>aa ?_) | refine ab fun Y hY=>aa ?_ | refine ae tk0 bN (ab fun Y hY=>aa ?_) | refine aa ?_ | refine ao ?_);(try clear hK' K');(try dsimp only [aop]);try simp only [go_sem,↓reduceIte,Nat.reduceEqDiff,Nat.reduceLT,Nat.reduceLeDiff,Nat.reduceAdd,Nat.reduceSub,Nat.reduceMul,Nat.reduceBEq,Nat.reduceBNe,Nat.reducePow,Int.reduceToNat,Int.reduceLE,Int.reduceLT,Int.reduceMul,Int.reduceEq,Int.reducePow,Int.reduceAdd,Int.reduceSub,Int.reduceNeg,reduceCtorEq,bN,Tryz.results8,hm']) | (with_reducible first | refine af ?_ | refine ai ?_ | refine aj ?_ | refine ay fun K hK=>?_ | refine ap ?_ | refine aq ?_ | refine aS ?_ | refine bb ?_ | refine al ?_ | refine av ?_ | refine au ?_) | (with_reducible refine hK _ ?_;clear hK K) | ((with_reducible refine ag ?_ ?_);(· decide)) | (with_reducible refine ah (hn) ?_) | (with_reducible refine ce (cr) ?_) | (with_reducible refine ah (hT2) ?_))
 rw [if_neg hm] at hE
 have hm' : ((4096 : Int) < (ms.length : Int)) = False:=eq_false (by omega)
 have hR0 : gS ls (ms.drop 0) 0 = gS ls ms 0:=by rw [List.drop_zero]
 generalize gS ls ms 0 = R at *
 obtain ⟨⟨hn0,hn1⟩,hcl,hsum,hlits⟩:=jb hP
 have hWl : W.length = cls.length:=by rw [hcls,List.length_map]
 have hlf:=qu ms
 have hru:=Bx N (cls ++ ms.map (·.lits)) rs (by rw [List.length_append,List.length_map];omega) (fun c hc=>by
  unfold Lg
  rcases List.mem_append.1 hc with h | h
  ·have : c.length≤fi cls:=io h
   omega
  ·obtain ⟨m,hm,rfl⟩:=List.mem_map.1 h
   have:=(hl m hm).1
   omega) h3
 have hru' : ∀ x,pI N (cls ++ ms.map (·.lits)) rs = x→AFn Tryz.prog 20 [inA N,.sl (W.map et ++ kF ms) (W.length + ms.length) .none,csA rs] [] (eA x.1 x.2) []:=fun x hx=>by
  rw [hx] at hru
  refine hJ 2 hru ?_
  have q1 : (W.map et).map (wkD 1) = cls.map dr:=by rw [kK,← hcls]
  have q2 : (kF ms).map (wkD 1) = (ms.map (·.lits)).map dr:=by rw [yO];exact tM _ 0
  have q3 : (rs.map dr).map (wkD 1) = rs.map dr:=tM _ 0
  have q4 : wkD 2 (.sl (W.map et ++ kF ms) (W.length + ms.length) .none) = csA (cls ++ ms.map (·.lits)):=by
   show AV.sl ((W.map et ++ kF ms).map (wkD 1)) _ .none = _
   rw [List.map_append,q1,q2,← List.map_append,hWl]
   have q5 : cls.length + ms.length = (cls ++ ms.map (·.lits)).length:=by rw [List.length_append,List.length_map]
   rw [q5]
  have q6 : wkD 2 (csA rs) = csA rs:=by show AV.sl ((rs.map dr).map (wkD 1)) _ .none = _;rw [q3]
  rw [List.map_cons,List.map_cons,List.map_cons,List.map_nil,q4,q6]
  rfl
 clear hru hcls hP hlits hsum
 generalize pI N (cls ++ ms.map (·.lits)) rs = Y at *
 have hru:=hru' Y rfl
 clear hru'
 have hCl : (W.map et).length = W.length:=List.length_map ..
 generalize W.map et = CW at *
 generalize W.length = wl at *
 refine aD [] Tryz.func8 rfl Tryz.ntmps8 (Nat.le_of_ble_eq_true rfl) (Nat.le_of_ble_eq_true rfl) fun w0 G0 B0 Pr hB0=>?_
 simp only [aO,aA,List.cons_append,List.nil_append]
 repeat' (first | (with_reducible refine hY _ ?_;clear hY Y) | ((with_reducible first | refine an rfl (ar fun K' hK'=>aa ?_) | refine hK' _ (ab fun Y hY=>aa ?_) | refine ab fun Y hY=>aa ?_ | refine ae tk0 bN (ab fun Y hY=>aa ?_) | refine aa ?_);(try clear hK' K');(try dsimp only [aop]);try simp only [go_sem,↓reduceIte,Nat.reduceEqDiff,Nat.reduceLT,Nat.reduceLeDiff,Nat.reduceAdd,Nat.reduceSub,Nat.reduceMul,Nat.reduceBEq,Nat.reduceBNe,Nat.reducePow,Int.reduceToNat,Int.reduceLE,Int.reduceLT,Int.reduceMul,Int.reduceEq,Int.reducePow,Int.reduceAdd,Int.reduceSub,Int.reduceNeg,reduceCtorEq,bN,Tryz.results8,hm']) | (with_reducible first | refine af ?_ | refine ai ?_ | refine aj ?_ | refine ay fun K hK=>?_ | refine aq ?_ | refine aU ?_ | refine al ?_ | refine av ?_ | refine bG ?_) | (with_reducible refine hK _ ?_;clear hK K) | ((with_reducible refine ag ?_ ?_);(· decide)) | (with_reducible refine ah (hn) ?_) | (with_reducible refine ce (cr) ?_) | (with_reducible refine ah (hT2) ?_))
 clear hn hT2
 refine bK (α:=Nat) (fun i=>[(3,.loc 10003 0),(7,.loc 10007 0),(8,.sl (CW ++ kF (ms.take i)) (wl + i) (.tok 10022)),(38,mD ms),(39,inA (ms.length : Int)),(40,inA (i : Int)),(10003,.bc [mD ms,csA rs] 31),(10007,.bc [inA N,gB ls,.sl CW wl (.tok 10022)] 57),(10022,.bt (wl + i) 41)])
  (fun i=>i≤ms.length∧gS ls (ms.drop i) i = R) (fun i=>ms.length - i) 0 [3,7,8,38,39,40] ?_ ⟨Nat.zero_le _,hR0⟩ ?_
 ·simp only [go_sem,↓reduceIte,Nat.reduceEqDiff,Nat.reduceLT,Nat.reduceLeDiff,Nat.reduceAdd,Nat.reduceSub,Nat.reduceMul,Nat.reduceBEq,Nat.reduceBNe,Nat.reducePow,Int.reduceToNat,Int.reduceLE,Int.reduceLT,Int.reduceMul,Int.reduceEq,Int.reducePow,Int.reduceAdd,Int.reduceSub,Int.reduceNeg,reduceCtorEq,List.take_zero,kF,List.map_nil,List.append_nil,Nat.add_zero,List.set_cons_succ,List.set_cons_zero] <;> rfl
 clear hR0
 rintro i ⟨hi,hRi⟩ ih
 by_cases hlt : i < ms.length
 ·have hlt' : ((i : Int) < (ms.length : Int)) = True:=eq_true (by omega)
  have hkw:=cf (n:=i) (by omega)
  have hg0:=yJ hlt
  obtain ⟨hz1,hz2⟩:=hl _ (List.getElem_mem hlt)
  have hle:=yI ls ms[i] (by omega) hz1 hz2
  rw [su hlt] at hRi
  have ihx:=fun e=>ih (i + 1) ⟨by omega,e⟩ (by omega)
  rw [uJ hlt] at ihx
  have htl : (CW ++ kF (ms.take i)).length = wl + i:=by rw [List.length_append,hCl];unfold kF;rw [List.length_map,List.length_take];omega
  clear ih hru hl
  generalize pr ls ms[i] = E at *
  generalize ms[i] = m at *
  obtain ⟨zs,ss⟩:=m
  simp only at hg0 hle ihx
  rw [← List.append_assoc] at ihx
  generalize CW ++ kF (ms.take i) = AL at *
  by_cases hE0 : E ≠ 0
  ·rw [if_pos hE0] at hRi
   subst hRi
   rw [if_pos hE0] at hE
   rw [hE]
   simp only
   rw [xW hE0]
   rw [cK hE0] at hle
   clear ihx hE
   repeat' (first | (with_reducible refine hY _ ?_;clear hY Y) | ((with_reducible first | refine an rfl (ar fun K' hK'=>aa ?_) | refine hK' _ (ab fun Y hY=>aa ?_) | refine ab fun Y hY=>aa ?_ | refine ae tk0 bN (ab fun Y hY=>aa ?_) | refine aa ?_ | refine ao ?_);(try clear hK' K');(try dsimp only [aop]);try simp only [go_sem,↓reduceIte,Nat.reduceEqDiff,Nat.reduceLT,Nat.reduceLeDiff,Nat.reduceAdd,Nat.reduceSub,Nat.reduceMul,Nat.reduceBEq,Nat.reduceBNe,Nat.reducePow,Int.reduceToNat,Int.reduceLE,Int.reduceLT,Int.reduceMul,Int.reduceEq,Int.reducePow,Int.reduceAdd,Int.reduceSub,Int.reduceNeg,reduceCtorEq,bN,Tryz.results8,hlt',hg0,hlf]) | (with_reducible first | refine af ?_ | refine ai ?_ | refine aj ?_ | refine ay fun K hK=>?_ | refine ap ?_ | refine aS ?_ | refine bb ?_ | refine al ?_ | refine av ?_ | refine au ?_) | (with_reducible refine hK _ ?_;clear hK K) | ((with_reducible refine ag ?_ ?_);(· decide)) | (with_reducible refine bp ?_ ?_;(· (try and_intros) <;> first | omega | assumption | (simp only [List.length_append,List.length_map,List.length_cons,List.length_nil] <;> omega))) | (with_reducible refine ah (hle) ?_))
  ·rw [if_neg hE0] at hRi
   rw [Decidable.not_not] at hE0
   subst hE0
   rw [cR] at hle
   have ih':=ihx hRi
   clear ihx hE
   repeat' (first | (with_reducible refine hY _ ?_;clear hY Y) | ((with_reducible first | refine an rfl (ar fun K' hK'=>aa ?_) | refine hK' _ (ab fun Y hY=>aa ?_) | refine ab fun Y hY=>aa ?_ | refine ae tk0 bN (ab fun Y hY=>aa ?_) | refine aa ?_);(try clear hK' K');(try dsimp only [aop]);try simp only [go_sem,↓reduceIte,Nat.reduceEqDiff,Nat.reduceLT,Nat.reduceLeDiff,Nat.reduceAdd,Nat.reduceSub,Nat.reduceMul,Nat.reduceBEq,Nat.reduceBNe,Nat.reducePow,Int.reduceToNat,Int.reduceLE,Int.reduceLT,Int.reduceMul,Int.reduceEq,Int.reducePow,Int.reduceAdd,Int.reduceSub,Int.reduceNeg,reduceCtorEq,bN,Tryz.results8,hlt',hg0,hlf,hkw,htl]) | (with_reducible first | refine af ?_ | refine ai ?_ | refine aj ?_ | refine ay fun K hK=>?_ | refine ap ?_ | refine aq ?_ | refine aU ?_ | refine al ?_ | refine av ?_) | (with_reducible refine hK _ ?_;clear hK K) | ((with_reducible refine ag ?_ ?_);(· decide)) | (with_reducible refine bp ?_ ?_;(· (try and_intros) <;> first | omega | assumption | (simp only [List.length_append,List.length_map,List.length_cons,List.length_nil] <;> omega))) | (with_reducible refine ah (hle) ?_) | (with_reducible refine ce (cr) ?_))
   refine bi [3,7,8,38,39,40] (by simp only [go_sem,↓reduceIte,Nat.reduceEqDiff,Nat.reduceLT,Nat.reduceLeDiff,Nat.reduceAdd,Nat.reduceSub,Nat.reduceMul,Nat.reduceBEq,Nat.reduceBNe,Nat.reducePow,Int.reduceToNat,Int.reduceLE,Int.reduceLT,Int.reduceMul,Int.reduceEq,Int.reducePow,Int.reduceAdd,Int.reduceSub,Int.reduceNeg,reduceCtorEq];exact rfl) ?_
   exact ih'
 ·have hlt' : ((i : Int) < (ms.length : Int)) = False:=eq_false (by omega)
  obtain rfl : i = ms.length:=by omega
  rw [List.drop_eq_nil_of_le (Nat.le_refl _)] at hRi
  obtain rfl : R = (0,-1):=hRi.symm
  rw [if_neg (by decide)] at hE
  subst hE
  rw [List.take_of_length_le (Nat.le_refl _)]
  clear ih
  generalize CW ++ kF ms = AL at *
  have hr1:=fun g=>zg g X.1 X.2
  have hr2:=fun ex σ=>x4 ex σ X.1 X.2
  generalize eA X.1 X.2 = ERR at *
  repeat' (first | (with_reducible refine hY _ ?_;clear hY Y) | ((with_reducible first | refine an rfl (ar fun K' hK'=>aa ?_) | refine hK' _ (ab fun Y hY=>aa ?_) | refine ab fun Y hY=>aa ?_ | refine ae tk0 bN (ab fun Y hY=>aa ?_) | refine aa ?_ | refine ao ?_);(try clear hK' K');(try dsimp only [aop]);try simp only [go_sem,↓reduceIte,Nat.reduceEqDiff,Nat.reduceLT,Nat.reduceLeDiff,Nat.reduceAdd,Nat.reduceSub,Nat.reduceMul,Nat.reduceBEq,Nat.reduceBNe,Nat.reducePow,Int.reduceToNat,Int.reduceLE,Int.reduceLT,Int.reduceMul,Int.reduceEq,Int.reducePow,Int.reduceAdd,Int.reduceSub,Int.reduceNeg,reduceCtorEq,bN,Tryz.results8,hlt',hr1,hr2]) | (with_reducible first | refine af ?_ | refine ai ?_ | refine aj ?_ | refine ay fun K hK=>?_ | refine aq ?_ | refine bC ?_ | refine bg ?_ | refine au ?_ | refine bf ?_) | (with_reducible refine hK _ ?_;clear hK K) | ((with_reducible refine ag ?_ ?_);(· decide)) | (with_reducible refine ah (c5 hru ?_) ?_;(· simp [cN])))
end Go.Proofs.YtmpdocplcgbpkaaGreatDoor
