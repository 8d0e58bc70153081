/- Formulas in K: the document's next, Vars, Light. Formulas in K: the document's Vars, Light. Formulas in K: the document's Copy, Same of a formula and itself; the law's small. Is a certificate short? In K: trammelref10.Light, small. -/
import Derived.Test.YtmpdocplcgbpkaaGreatDoorZ22
import Derived.Test.YtmpdocplcgbpkaaGreatDoorZ25
import Derived.Test.YtmpdocplcgbpkaaGreatDoorZ13
import Derived.Test.YtmpdocplcgbpkaaGreatDoorZ29
namespace Go.Proofs.YtmpdocplcgbpkaaGreatDoor
set_option linter.unusedSimpArgs false
set_option linter.unusedVariables false
open Go.RowKit
end Go.Proofs.YtmpdocplcgbpkaaGreatDoor
namespace Go.Proofs.YtmpdocplcgbpkaaGreatDoor
set_option linter.unusedSimpArgs false
set_option linter.unusedVariables false
open Go.RowKit
mutual
def lgF : Fo→Int→Int→Int
 | .mk _ l ks,z,d=>if d = 0∨z - 1 < 0∨z - 1 < (l.t.length : Int)∨z - 1 < (ks.length : Int) then -1 else qv ks (z - 1 - (l.t.length : Int)) (d - 1)
def qv : List Fo→Int→Int→Int
 | [],z,_=>z
 | f :: r,z,d=>if lgF f z d < 0 then -1 else qv r (lgF f z d) d
end
mutual
theorem wy : ∀ (f : Fo) (z d : Int),0≤z→lgF f z d≤z
 | .mk k l ks,z,d,hz=>by
  rw [lgF]
  split
  ·omega
  ·have:=tx ks (z - 1 - (l.t.length : Int)) (d - 1) (by omega)
   omega
theorem tx : ∀ (l : List Fo) (z d : Int),0≤z→qv l z d≤z
 | [],z,d,_=>Int.le_refl _
 | f :: r,z,d,hz=>by
  rw [qv]
  split
  ·omega
  ·have h1:=wy f z d hz
   have h2:=tx r (lgF f z d) d (by omega)
   omega
end
def aX : Nat→List Nat
 | 0=>[0,1,2]
 | 1=>[1,2,3]
 | 2=>[1,2,3]
 | 3=>[]
 | 4=>[1,2,3]
 | 5=>[1,2,3]
 | 6=>[1,2,3,7]
 | 7=>[1,2,3,7]
 | 8=>[1,2,3,7]
 | 9=>[1,2,3,7]
 | 10=>[]
 | 11=>[1]
 | _=>[]
set_option maxRecDepth 100000 in
set_option maxHeartbeats 8000000 in
theorem yK : ∀ f,OkF f→∀ z d : Int,0≤z→z≤1000000→0≤d→d≤1000→AFn Tryz.prog 16 [.agg (foA f),inA z,inA d] [] (inA (lgF f z d)) [] :=
 iH fun k l ks hlt0 hlk hoks ih z d hz hz2 hd hd2=>by
  unfold Lg at hlt0 hlk
  obtain ⟨c,t⟩:=l
  simp only at hlt0
  rw [foA,lgF]
  simp only
  have hw1 : IntKind.i64.wrap (z - 1) = z - 1:=aY (by omega) (by omega)
  have hw2 : IntKind.i64.wrap (d - 1) = d - 1:=aY (by omega) (by omega)
  by_cases a1 : d = 0
  ·rw [if_pos (.inl a1)]
   have b1 : (d = 0) = True:=eq_true a1
   generalize cD ks = KS at *
   refine aD [] Tryz.func16 rfl Tryz.ntmps16 (Nat.le_of_ble_eq_true rfl) (Nat.le_of_ble_eq_true rfl) fun w0 G0 B0 Pr hB0=>?_
   simp only [aO,aA,List.cons_append,List.nil_append]
   repeat' (first | (with_reducible refine hY _ ?_;clear hY Y) | ((with_reducible first | refine an rfl (ar fun K' hK'=>aa ?_) | refine hK' _ (ab fun Y hY=>aa ?_) | refine bl rfl (ab fun Y hY=>aa ?_) | refine ab fun Y hY=>aa ?_ | refine ae tk0 aX (ab fun Y hY=>aa ?_) | refine aa ?_ | refine ao ?_);(try clear hK' K');(try dsimp only [aop]);try simp only [go_sem,↓reduceIte,Nat.reduceEqDiff,Nat.reduceLT,Nat.reduceLeDiff,Nat.reduceAdd,Nat.reduceSub,Nat.reduceMul,Nat.reduceBEq,Nat.reduceBNe,Nat.reducePow,Int.reduceToNat,Int.reduceLE,Int.reduceLT,Int.reduceMul,Int.reduceEq,Int.reducePow,Int.reduceAdd,Int.reduceSub,Int.reduceNeg,reduceCtorEq,aX,Tryz.results16,hw1,b1]) | (with_reducible first | refine af ?_ | refine bh rfl ?_ | refine cS ?_ ?_ | refine ai ?_ | refine aj ?_ | refine ay fun K hK=>?_ | refine ap ?_ | refine aS ?_ | refine au ?_) | (with_reducible refine hK _ ?_;clear hK K) | ((with_reducible first | refine aG ?_ ?_ | refine ag ?_ ?_);(· decide)))
  have b1 : (d = 0) = False:=eq_false a1
  by_cases a2 : z - 1 < 0
  ·rw [if_pos (.inr (.inl a2))]
   have b2 : (z - 1 < 0) = True:=eq_true a2
   generalize cD ks = KS at *
   refine aD [] Tryz.func16 rfl Tryz.ntmps16 (Nat.le_of_ble_eq_true rfl) (Nat.le_of_ble_eq_true rfl) fun w0 G0 B0 Pr hB0=>?_
   simp only [aO,aA,List.cons_append,List.nil_append]
   repeat' (first | (with_reducible refine hY _ ?_;clear hY Y) | ((with_reducible first | refine an rfl (ar fun K' hK'=>aa ?_) | refine hK' _ (ab fun Y hY=>aa ?_) | refine bl rfl (ab fun Y hY=>aa ?_) | refine ab fun Y hY=>aa ?_ | refine ar fun K' hK'=>aa ?_ | refine ae tk0 aX (ab fun Y hY=>aa ?_) | refine aa ?_ | refine ao ?_);(try clear hK' K');(try dsimp only [aop]);try simp only [go_sem,↓reduceIte,Nat.reduceEqDiff,Nat.reduceLT,Nat.reduceLeDiff,Nat.reduceAdd,Nat.reduceSub,Nat.reduceMul,Nat.reduceBEq,Nat.reduceBNe,Nat.reducePow,Int.reduceToNat,Int.reduceLE,Int.reduceLT,Int.reduceMul,Int.reduceEq,Int.reducePow,Int.reduceAdd,Int.reduceSub,Int.reduceNeg,reduceCtorEq,aX,Tryz.results16,hw1,b1,b2]) | (with_reducible first | refine af ?_ | refine bh rfl ?_ | refine aL ?_ | refine cS ?_ ?_ | refine ai ?_ | refine aj ?_ | refine ay fun K hK=>?_ | refine ap ?_ | refine aS ?_ | refine au ?_) | (with_reducible refine hK _ ?_;clear hK K) | ((with_reducible first | refine aG ?_ ?_ | refine ag ?_ ?_);(· decide)))
  have b2 : (z - 1 < 0) = False:=eq_false a2
  by_cases a3 : z - 1 < (t.length : Int)
  ·rw [if_pos (.inr (.inr (.inl a3)))]
   have b3 : (z - 1 < (t.length : Int)) = True:=eq_true a3
   generalize cD ks = KS at *
   refine aD [] Tryz.func16 rfl Tryz.ntmps16 (Nat.le_of_ble_eq_true rfl) (Nat.le_of_ble_eq_true rfl) fun w0 G0 B0 Pr hB0=>?_
   simp only [aO,aA,List.cons_append,List.nil_append]
   repeat' (first | (with_reducible refine hY _ ?_;clear hY Y) | ((with_reducible first | refine an rfl (ar fun K' hK'=>aa ?_) | refine hK' _ (ab fun Y hY=>aa ?_) | refine bl rfl (ab fun Y hY=>aa ?_) | refine ab fun Y hY=>aa ?_ | refine ar fun K' hK'=>aa ?_ | refine ae tk0 aX (ab fun Y hY=>aa ?_) | refine aa ?_ | refine ao ?_);(try clear hK' K');(try dsimp only [aop]);try simp only [go_sem,↓reduceIte,Nat.reduceEqDiff,Nat.reduceLT,Nat.reduceLeDiff,Nat.reduceAdd,Nat.reduceSub,Nat.reduceMul,Nat.reduceBEq,Nat.reduceBNe,Nat.reducePow,Int.reduceToNat,Int.reduceLE,Int.reduceLT,Int.reduceMul,Int.reduceEq,Int.reducePow,Int.reduceAdd,Int.reduceSub,Int.reduceNeg,reduceCtorEq,aX,Tryz.results16,hw1,b1,b2,b3]) | (with_reducible first | refine af ?_ | refine bh rfl ?_ | refine aL ?_ | refine cS ?_ ?_ | refine ai ?_ | refine aj ?_ | refine ay fun K hK=>?_ | refine ap ?_ | refine aS ?_ | refine au ?_) | (with_reducible refine hK _ ?_;clear hK K) | ((with_reducible first | refine aG ?_ ?_ | refine ag ?_ ?_);(· decide)))
  have b3 : (z - 1 < (t.length : Int)) = False:=eq_false a3
  by_cases a4 : z - 1 < (ks.length : Int)
  ·rw [if_pos (.inr (.inr (.inr a4)))]
   have b4 : (z - 1 < (ks.length : Int)) = True:=eq_true a4
   generalize cD ks = KS at *
   refine aD [] Tryz.func16 rfl Tryz.ntmps16 (Nat.le_of_ble_eq_true rfl) (Nat.le_of_ble_eq_true rfl) fun w0 G0 B0 Pr hB0=>?_
   simp only [aO,aA,List.cons_append,List.nil_append]
   repeat' (first | (with_reducible refine hY _ ?_;clear hY Y) | ((with_reducible first | refine an rfl (ar fun K' hK'=>aa ?_) | refine hK' _ (ab fun Y hY=>aa ?_) | refine bl rfl (ab fun Y hY=>aa ?_) | refine ab fun Y hY=>aa ?_ | refine ar fun K' hK'=>aa ?_ | refine ae tk0 aX (ab fun Y hY=>aa ?_) | refine aa ?_ | refine ao ?_);(try clear hK' K');(try dsimp only [aop]);try simp only [go_sem,↓reduceIte,Nat.reduceEqDiff,Nat.reduceLT,Nat.reduceLeDiff,Nat.reduceAdd,Nat.reduceSub,Nat.reduceMul,Nat.reduceBEq,Nat.reduceBNe,Nat.reducePow,Int.reduceToNat,Int.reduceLE,Int.reduceLT,Int.reduceMul,Int.reduceEq,Int.reducePow,Int.reduceAdd,Int.reduceSub,Int.reduceNeg,reduceCtorEq,aX,Tryz.results16,hw1,b1,b2,b3,b4]) | (with_reducible first | refine af ?_ | refine aL ?_ | refine ai ?_ | refine aj ?_ | refine ay fun K hK=>?_ | refine ap ?_ | refine aS ?_ | refine au ?_) | (with_reducible refine hK _ ?_;clear hK K) | ((with_reducible first | refine aG ?_ ?_ | refine ag ?_ ?_);(· decide)))
  have b4 : (z - 1 < (ks.length : Int)) = False:=eq_false a4
  rw [if_neg (by omega)]
  have hw3 : IntKind.i64.wrap (z - 1 - (t.length : Int)) = z - 1 - (t.length : Int):=aY (by omega) (by omega)
  have hz0 : 0≤z - 1 - (t.length : Int):=by omega
  refine aD [] Tryz.func16 rfl Tryz.ntmps16 (Nat.le_of_ble_eq_true rfl) (Nat.le_of_ble_eq_true rfl) fun w0 G0 B0 Pr hB0=>?_
  simp only [aO,aA,List.cons_append,List.nil_append]
  repeat' (first | (with_reducible refine hY _ ?_;clear hY Y) | ((with_reducible first | refine an rfl (ar fun K' hK'=>aa ?_) | refine hK' _ (ab fun Y hY=>aa ?_) | refine bl rfl (ab fun Y hY=>aa ?_) | refine ab fun Y hY=>aa ?_ | refine ar fun K' hK'=>aa ?_ | refine ae tk0 aX (ab fun Y hY=>aa ?_));(try clear hK' K');(try dsimp only [aop]);try simp only [go_sem,↓reduceIte,Nat.reduceEqDiff,Nat.reduceLT,Nat.reduceLeDiff,Nat.reduceAdd,Nat.reduceSub,Nat.reduceMul,Nat.reduceBEq,Nat.reduceBNe,Nat.reducePow,Int.reduceToNat,Int.reduceLE,Int.reduceLT,Int.reduceMul,Int.reduceEq,Int.reducePow,Int.reduceAdd,Int.reduceSub,Int.reduceNeg,reduceCtorEq,aX,Tryz.results16,hw1,b1,b2,b3,b4,hw3]) | (with_reducible first | refine af ?_ | refine aL ?_ | refine ai ?_ | refine aj ?_ | refine ay fun K hK=>?_ | refine aq ?_ | refine al ?_ | refine av ?_ | refine bG ?_) | (with_reducible refine hK _ ?_;clear hK K) | ((with_reducible first | refine aG ?_ ?_ | refine ag ?_ ?_);(· decide)))
  generalize hR : qv ks (z - 1 - (t.length : Int)) (d - 1) = R at *
  refine bK (α:=Nat × Int) (fun a=>[(1,inA a.2),(2,inA d),(3,.loc 10003 0),(7,inA (a.1 : Int)),(10003,.bc [inA k,inA c,.sl (aJ t) t.length .none,.sl (cD ks) ks.length .none] 27)])
   (fun a=>a.1≤ks.length∧0≤a.2∧a.2≤1000000∧R = qv (ks.drop a.1) a.2 (d - 1)) (fun a=>ks.length - a.1) (0,z - 1 - (t.length : Int)) [1,2,3,7] ?_ ⟨Nat.zero_le _,hz0,by simp only;omega,hR.symm⟩ ?_
  ·simp only [go_sem,↓reduceIte,Nat.reduceEqDiff,Nat.reduceLT,Nat.reduceLeDiff,Nat.reduceAdd,Nat.reduceSub,Nat.reduceMul,Nat.reduceBEq,Nat.reduceBNe,Nat.reducePow,Int.reduceToNat,Int.reduceLE,Int.reduceLT,Int.reduceMul,Int.reduceEq,Int.reducePow,Int.reduceAdd,Int.reduceSub,Int.reduceNeg,reduceCtorEq] <;> rfl
  rintro ⟨j,y⟩ ⟨hj,hy0,hy1,hR2⟩ ihj
  simp only at hj hy0 hy1 hR2 ihj ⊢
  clear hR
  by_cases hlt : j < ks.length
  ·have hlt' : ((j : Int) < (ks.length : Int)) = True:=eq_true (by omega)
   have hkw:=cf (n:=j) (by omega)
   have hg0:=fN hlt
   have hfl:=dC ks
   have h1:=ih ks[j] (List.getElem_mem hlt) y (d - 1) hy0 hy1 (by omega) (by omega)
   have hle:=wy ks[j] y (d - 1) hy0
   rw [List.drop_eq_getElem_cons hlt,qv] at hR2
   generalize lgF ks[j] y (d - 1) = q at *
   have next : ¬ q < 0→_:=fun hq=>ihj (j + 1,q) ⟨by simp only;omega,by simp only;omega,by simp only;omega,by rw [if_neg hq] at hR2;exact hR2⟩ (by simp only;omega)
   clear ih hoks ihj
   generalize ks[j] = y2 at *
   obtain ⟨yk,yl,ys⟩:=y2
   simp only [foA] at hg0 h1
   generalize cD ks = KS at *
   by_cases hq : q < 0
   ·have hq' : (q < 0) = True:=eq_true hq
    rw [if_pos hq] at hR2
    rw [hR2]
    clear next
    repeat' (first | (with_reducible refine hY _ ?_;clear hY Y) | ((with_reducible first | refine an rfl (ar fun K' hK'=>aa ?_) | refine hK' _ (ab fun Y hY=>aa ?_) | refine ab fun Y hY=>aa ?_ | refine ae tk0 aX (ab fun Y hY=>aa ?_) | refine aa ?_ | refine ao ?_);(try clear hK' K');(try dsimp only [aop]);try simp only [go_sem,↓reduceIte,Nat.reduceEqDiff,Nat.reduceLT,Nat.reduceLeDiff,Nat.reduceAdd,Nat.reduceSub,Nat.reduceMul,Nat.reduceBEq,Nat.reduceBNe,Nat.reducePow,Int.reduceToNat,Int.reduceLE,Int.reduceLT,Int.reduceMul,Int.reduceEq,Int.reducePow,Int.reduceAdd,Int.reduceSub,Int.reduceNeg,reduceCtorEq,aX,Tryz.results16,hlt',hkw,hg0,hfl,hw2,hq']) | (with_reducible first | refine af ?_ | refine ai ?_ | refine aj ?_ | refine ay fun K hK=>?_ | refine ap ?_ | refine aS ?_ | refine bb ?_ | refine al ?_ | refine av ?_ | refine au ?_) | (with_reducible refine hK _ ?_;clear hK K) | ((with_reducible refine ag ?_ ?_);(· decide)) | (with_reducible refine bp ?_ ?_;(· (try and_intros) <;> first | omega | assumption | (simp only [List.length_append,List.length_map,List.length_cons,List.length_nil] <;> omega))) | (with_reducible refine ah (h1) ?_))
   ·have hq' : (q < 0) = False:=eq_false hq
    have ih3:=next hq
    clear next hR2
    repeat' (first | (with_reducible refine hY _ ?_;clear hY Y) | ((with_reducible first | refine an rfl (ar fun K' hK'=>aa ?_) | refine hK' _ (ab fun Y hY=>aa ?_) | refine ab fun Y hY=>aa ?_ | refine ae tk0 aX (ab fun Y hY=>aa ?_) | refine aa ?_);(try clear hK' K');(try dsimp only [aop]);try simp only [go_sem,↓reduceIte,Nat.reduceEqDiff,Nat.reduceLT,Nat.reduceLeDiff,Nat.reduceAdd,Nat.reduceSub,Nat.reduceMul,Nat.reduceBEq,Nat.reduceBNe,Nat.reducePow,Int.reduceToNat,Int.reduceLE,Int.reduceLT,Int.reduceMul,Int.reduceEq,Int.reducePow,Int.reduceAdd,Int.reduceSub,Int.reduceNeg,reduceCtorEq,aX,Tryz.results16,hlt',hkw,hg0,hfl,hw2,hq']) | (with_reducible first | refine af ?_ | refine ai ?_ | refine aj ?_ | refine ay fun K hK=>?_ | refine ap ?_ | refine aq ?_ | refine aU ?_ | refine al ?_ | refine av ?_) | (with_reducible refine hK _ ?_;clear hK K) | ((with_reducible refine ag ?_ ?_);(· decide)) | (with_reducible refine bp ?_ ?_;(· (try and_intros) <;> first | omega | assumption | (simp only [List.length_append,List.length_map,List.length_cons,List.length_nil] <;> omega))) | (with_reducible refine ah (h1) ?_))
    refine bi [1,2,3,7] (by simp only [go_sem,↓reduceIte,Nat.reduceEqDiff,Nat.reduceLT,Nat.reduceLeDiff,Nat.reduceAdd,Nat.reduceSub,Nat.reduceMul,Nat.reduceBEq,Nat.reduceBNe,Nat.reducePow,Int.reduceToNat,Int.reduceLE,Int.reduceLT,Int.reduceMul,Int.reduceEq,Int.reducePow,Int.reduceAdd,Int.reduceSub,Int.reduceNeg,reduceCtorEq];exact rfl) ?_
    exact ih3
  ·have hlt' : ((j : Int) < (ks.length : Int)) = False:=eq_false (by omega)
   rw [List.drop_of_length_le (by omega)] at hR2
   rw [hR2,show qv [] y (d - 1) = y from rfl]
   clear ihj ih hoks hR2
   generalize cD ks = KS at *
   repeat' (first | (with_reducible refine hY _ ?_;clear hY Y) | ((with_reducible first | refine an rfl (ar fun K' hK'=>aa ?_) | refine hK' _ (ab fun Y hY=>aa ?_) | refine ab fun Y hY=>aa ?_ | refine ae tk0 aX (ab fun Y hY=>aa ?_) | refine aa ?_ | refine ao ?_);(try clear hK' K');(try dsimp only [aop]);try simp only [go_sem,↓reduceIte,Nat.reduceEqDiff,Nat.reduceLT,Nat.reduceLeDiff,Nat.reduceAdd,Nat.reduceSub,Nat.reduceMul,Nat.reduceBEq,Nat.reduceBNe,Nat.reducePow,Int.reduceToNat,Int.reduceLE,Int.reduceLT,Int.reduceMul,Int.reduceEq,Int.reducePow,Int.reduceAdd,Int.reduceSub,Int.reduceNeg,reduceCtorEq,aX,Tryz.results16,hlt']) | (with_reducible first | refine af ?_ | refine ai ?_ | refine aj ?_ | refine ay fun K hK=>?_ | refine aq ?_ | refine bC ?_ | refine bg ?_ | refine au ?_ | refine bf ?_) | (with_reducible refine hK _ ?_;clear hK K) | ((with_reducible refine ag ?_ ?_);(· decide)))
end Go.Proofs.YtmpdocplcgbpkaaGreatDoor
namespace Go.Proofs.YtmpdocplcgbpkaaGreatDoor
set_option linter.unusedSimpArgs false
set_option linter.unusedVariables false
open Go.RowKit
end Go.Proofs.YtmpdocplcgbpkaaGreatDoor
namespace Go.Proofs.YtmpdocplcgbpkaaGreatDoor
set_option linter.unusedSimpArgs false
set_option linter.unusedVariables false
open Go.RowKit
def ltL (l : Lem) : Bool:=decide (l.lits.length≤40) && (decide (l.steps.length≤60) && l.steps.all fun s=>decide (s.parts.length≤70))
def ltC (c : Crt) : Bool:=decide (c.lems.length≤40) && (decide (c.refute.length≤60) && (c.lems.all ltL && c.refute.all fun r=>decide (r.length≤60)))
structure OkC (c : Crt) : Prop where
 lems : Lg c.lems
 lits : ∀ l ∈ c.lems,Lg l.lits
 steps : ∀ l ∈ c.lems,pW l.steps
 ref : Lg c.refute
 refs : ∀ r ∈ c.refute,Lg r
abbrev xU (c : Crt) : List AV:=[mD c.lems,csA c.refute]
theorem uF {ls : List Lem} {i : Nat} (h : i < ls.length) : (ls.flatMap mC).getD (i * 2) .u = dr ls[i].lits:=oX (f:=mC) (fun _=>rfl) h (by decide)
theorem uG {ls : List Lem} {i : Nat} (h : i < ls.length) : (ls.flatMap mC).getD (i * 2 + 1) .u = kN ls[i].steps:=sc (f:=mC) (fun _=>rfl) h 1 (by decide)
theorem rO {α : Type} {p : α→Bool} {l : List α} {k : Nat} (h : k < l.length) (hp : p l[k] = false) : l.all p = false:=by
 rw [List.all_eq_false]
 exact ⟨_,List.getElem_mem h,by rw [hp];decide⟩
theorem rP {α : Type} {p : α→Bool} {l : List α} (h : ∀ j (hj : j < l.length),p l[j] = true) : l.all p = true:=by
 rw [List.all_eq_true]
 intro x hx
 obtain ⟨j,hj,rfl⟩:=List.getElem_of_mem hx
 exact h j hj
def aH : Nat→List Nat
 | 0=>[0]
 | 1=>[1]
 | 2=>[]
 | 3=>[1]
 | 4=>[1,3]
 | 5=>[1,3]
 | 6=>[1,3]
 | 7=>[]
 | 8=>[1,3]
 | 9=>[1,3,4]
 | 10=>[1,3,4]
 | 11=>[1,3,4]
 | 12=>[]
 | 13=>[1]
 | 14=>[1,5]
 | 15=>[1,5]
 | 16=>[1,5]
 | 17=>[]
 | 18=>[]
 | _=>[]
set_option maxRecDepth 100000 in
set_option maxHeartbeats 16000000 in
theorem sJ (c : Crt) (hok : OkC c) : AFn Tryz.prog 15 [.agg (xU c)] [] (.c (.bool (ltC c))) []:=by
 obtain ⟨o1,o2,o3,o4,o5⟩:=hok
 obtain ⟨ms,rs⟩:=c
 simp only at o1 o2 o3 o4 o5
 have hE : ltC ⟨ms,rs⟩ = (decide (ms.length≤40) && (decide (rs.length≤60) && (ms.all ltL && rs.all fun r=>decide (r.length≤60)))):=rfl
 unfold Lg at o1 o4
 by_cases h1 : ms.length≤40
 case neg =>
  rw [decide_eq_false h1,Bool.false_and] at hE
  rw [hE]
  have h1' : ((40 : Int) < (ms.length : Int)) = True:=eq_true (by omega)
  refine aD [] Tryz.func15 rfl Tryz.ntmps15 (Nat.le_of_ble_eq_true rfl) (Nat.le_of_ble_eq_true rfl) fun w0 G0 B0 Pr hB0=>?_
  simp only [aO,aA,List.cons_append,List.nil_append]
  repeat' (first | (with_reducible refine hY _ ?_;clear hY Y) | ((with_reducible first | refine an rfl (ar fun K' hK'=>aa ?_) | refine hK' _ (ab fun Y hY=>aa ?_) | refine bl rfl (ab fun Y hY=>aa ?_) | refine ab fun Y hY=>aa ?_ | refine ae tk0 aH (ab fun Y hY=>aa ?_) | refine aa ?_ | refine ao ?_);(try clear hK' K');(try dsimp only [aop]);try simp only [go_sem,↓reduceIte,Nat.reduceEqDiff,Nat.reduceLT,Nat.reduceLeDiff,Nat.reduceAdd,Nat.reduceSub,Nat.reduceMul,Nat.reduceBEq,Nat.reduceBNe,Nat.reducePow,Int.reduceToNat,Int.reduceLE,Int.reduceLT,Int.reduceMul,Int.reduceEq,Int.reducePow,Int.reduceAdd,Int.reduceSub,Int.reduceNeg,reduceCtorEq,aH,Tryz.results15,h1']) | (with_reducible first | refine af ?_ | refine bh rfl ?_ | refine cS ?_ ?_ | refine ai ?_ | refine aj ?_ | refine ay fun K hK=>?_ | refine ap ?_ | refine aS ?_ | refine au ?_) | (with_reducible refine hK _ ?_;clear hK K) | ((with_reducible first | refine aG ?_ ?_ | refine ag ?_ ?_);(· decide)))
 have h1' : ((40 : Int) < (ms.length : Int)) = False:=eq_false (by omega)
 by_cases h2 : rs.length≤60
 case neg =>
  rw [decide_eq_false h2,Bool.false_and,Bool.and_false] at hE
  rw [hE]
  have h2' : ((60 : Int) < (rs.length : Int)) = True:=eq_true (by omega)
  refine aD [] Tryz.func15 rfl Tryz.ntmps15 (Nat.le_of_ble_eq_true rfl) (Nat.le_of_ble_eq_true rfl) fun w0 G0 B0 Pr hB0=>?_
  simp only [aO,aA,List.cons_append,List.nil_append]
  repeat' (first | (with_reducible refine hY _ ?_;clear hY Y) | ((with_reducible first | refine an rfl (ar fun K' hK'=>aa ?_) | refine hK' _ (ab fun Y hY=>aa ?_) | refine bl rfl (ab fun Y hY=>aa ?_) | refine ab fun Y hY=>aa ?_ | refine ar fun K' hK'=>aa ?_ | refine ae tk0 aH (ab fun Y hY=>aa ?_) | refine aa ?_ | refine ao ?_);(try clear hK' K');(try dsimp only [aop]);try simp only [go_sem,↓reduceIte,Nat.reduceEqDiff,Nat.reduceLT,Nat.reduceLeDiff,Nat.reduceAdd,Nat.reduceSub,Nat.reduceMul,Nat.reduceBEq,Nat.reduceBNe,Nat.reducePow,Int.reduceToNat,Int.reduceLE,Int.reduceLT,Int.reduceMul,Int.reduceEq,Int.reducePow,Int.reduceAdd,Int.reduceSub,Int.reduceNeg,reduceCtorEq,aH,Tryz.results15,h1',h2']) | (with_reducible first | refine af ?_ | refine aL ?_ | refine ai ?_ | refine aj ?_ | refine ay fun K hK=>?_ | refine ap ?_ | refine aS ?_ | refine au ?_) | (with_reducible refine hK _ ?_;clear hK K) | ((with_reducible first | refine aG ?_ ?_ | refine ag ?_ ?_);(· decide)))
 have h2' : ((60 : Int) < (rs.length : Int)) = False:=eq_false (by omega)
 rw [decide_eq_true h1,decide_eq_true h2,Bool.true_and,Bool.true_and] at hE
 have hlf:=qu ms
 have hrf : (rs.map dr).length = rs.length:=List.length_map ..
 refine aD [] Tryz.func15 rfl Tryz.ntmps15 (Nat.le_of_ble_eq_true rfl) (Nat.le_of_ble_eq_true rfl) fun w0 G0 B0 Pr hB0=>?_
 simp only [aO,aA,List.cons_append,List.nil_append]
 repeat' (first | (with_reducible refine hY _ ?_;clear hY Y) | ((with_reducible first | refine an rfl (ar fun K' hK'=>aa ?_) | refine hK' _ (ab fun Y hY=>aa ?_) | refine bl rfl (ab fun Y hY=>aa ?_) | refine ab fun Y hY=>aa ?_ | refine ar fun K' hK'=>aa ?_ | refine ae tk0 aH (ab fun Y hY=>aa ?_));(try clear hK' K');(try dsimp only [aop]);try simp only [go_sem,↓reduceIte,Nat.reduceEqDiff,Nat.reduceLT,Nat.reduceLeDiff,Nat.reduceAdd,Nat.reduceSub,Nat.reduceMul,Nat.reduceBEq,Nat.reduceBNe,Nat.reducePow,Int.reduceToNat,Int.reduceLE,Int.reduceLT,Int.reduceMul,Int.reduceEq,Int.reducePow,Int.reduceAdd,Int.reduceSub,Int.reduceNeg,reduceCtorEq,aH,Tryz.results15,h1',h2']) | (with_reducible first | refine af ?_ | refine aL ?_ | refine ai ?_ | refine aj ?_ | refine ay fun K hK=>?_ | refine aq ?_ | refine al ?_ | refine av ?_ | refine bG ?_) | (with_reducible refine hK _ ?_;clear hK K) | ((with_reducible first | refine aG ?_ ?_ | refine ag ?_ ?_);(· decide)))
 refine bK (α:=Nat) (fun i=>[(1,.loc 10001 0),(3,inA (i : Int)),(10001,.bc [mD ms,csA rs] 31)])
  (fun i=>i≤ms.length∧∀ j (hj : j < ms.length),j < i→ltL ms[j] = true) (fun i=>ms.length - i) 0 [1,3] ?_ ⟨Nat.zero_le _,fun j _ hj=>absurd hj (Nat.not_lt_zero _)⟩ ?_
 ·simp only [go_sem,↓reduceIte,Nat.reduceEqDiff,Nat.reduceLT,Nat.reduceLeDiff,Nat.reduceAdd,Nat.reduceSub,Nat.reduceMul,Nat.reduceBEq,Nat.reduceBNe,Nat.reducePow,Int.reduceToNat,Int.reduceLE,Int.reduceLT,Int.reduceMul,Int.reduceEq,Int.reducePow,Int.reduceAdd,Int.reduceSub,Int.reduceNeg,reduceCtorEq] <;> rfl
 rintro i ⟨hi,hall⟩ ih
 by_cases hlt : i < ms.length
 ·have hlt' : ((i : Int) < (ms.length : Int)) = True:=eq_true (by omega)
  have hkw:=cf (n:=i) (by omega)
  have hg0:=uF hlt
  have hg1:=uG hlt
  have hs:=o3 _ (List.getElem_mem hlt)
  have ha : ltL ms[i] = false→ltC ⟨ms,rs⟩ = false:=fun e=>by rw [hE,rO hlt e,Bool.false_and]
  have ihx:=fun (e : ltL ms[i] = true)=>ih (i + 1) ⟨by omega,fun j hj hjk=>by
   by_cases e2 : j < i
   ·exact hall j hj e2
   ·obtain rfl : j = i:=by omega
    exact e⟩ (by omega)
  have hT : ltL ms[i] = (decide (ms[i].lits.length≤40) && (decide (ms[i].steps.length≤60) && ms[i].steps.all fun s=>decide (s.parts.length≤70))):=rfl
  clear ih hall hE o2 o3 o5
  generalize ltC ⟨ms,rs⟩ = R at *
  generalize ltL ms[i] = T at *
  generalize ms[i] = l at *
  obtain ⟨zs,ss⟩:=l
  simp only at hg0 hg1 hs hT
  by_cases h3 : zs.length≤40
  case neg =>
   rw [decide_eq_false h3,Bool.false_and] at hT
   rw [ha hT]
   have h3' : ((40 : Int) < (zs.length : Int)) = True:=eq_true (by omega)
   clear ihx
   repeat' (first | (with_reducible refine hY _ ?_;clear hY Y) | ((with_reducible first | refine an rfl (ar fun K' hK'=>aa ?_) | refine hK' _ (ab fun Y hY=>aa ?_) | refine bl rfl (ab fun Y hY=>aa ?_) | refine ab fun Y hY=>aa ?_ | refine ae tk0 aH (ab fun Y hY=>aa ?_) | refine aa ?_ | refine ao ?_);(try clear hK' K');(try dsimp only [aop]);try simp only [go_sem,↓reduceIte,Nat.reduceEqDiff,Nat.reduceLT,Nat.reduceLeDiff,Nat.reduceAdd,Nat.reduceSub,Nat.reduceMul,Nat.reduceBEq,Nat.reduceBNe,Nat.reducePow,Int.reduceToNat,Int.reduceLE,Int.reduceLT,Int.reduceMul,Int.reduceEq,Int.reducePow,Int.reduceAdd,Int.reduceSub,Int.reduceNeg,reduceCtorEq,aH,Tryz.results15,hlt',hlf,hg0,hg1,h3']) | (with_reducible first | refine af ?_ | refine bh rfl ?_ | refine cS ?_ ?_ | refine ai ?_ | refine aj ?_ | refine ay fun K hK=>?_ | refine ap ?_ | refine aS ?_ | refine bb ?_ | refine al ?_ | refine av ?_ | refine au ?_) | (with_reducible refine hK _ ?_;clear hK K) | ((with_reducible first | refine aG ?_ ?_ | refine ag ?_ ?_);(· decide)) | (with_reducible refine bp ?_ ?_;(· (try and_intros) <;> first | omega | assumption | (simp only [List.length_append,List.length_map,List.length_cons,List.length_nil] <;> omega))))
  have h3' : ((40 : Int) < (zs.length : Int)) = False:=eq_false (by omega)
  by_cases h4 : ss.length≤60
  case neg =>
   rw [decide_eq_false h4,Bool.false_and,Bool.and_false] at hT
   rw [ha hT]
   have h4' : ((60 : Int) < (ss.length : Int)) = True:=eq_true (by omega)
   clear ihx
   repeat' (first | (with_reducible refine hY _ ?_;clear hY Y) | ((with_reducible first | refine an rfl (ar fun K' hK'=>aa ?_) | refine hK' _ (ab fun Y hY=>aa ?_) | refine bl rfl (ab fun Y hY=>aa ?_) | refine ab fun Y hY=>aa ?_ | refine ar fun K' hK'=>aa ?_ | refine ae tk0 aH (ab fun Y hY=>aa ?_) | refine aa ?_ | refine ao ?_);(try clear hK' K');(try dsimp only [aop]);try simp only [go_sem,↓reduceIte,Nat.reduceEqDiff,Nat.reduceLT,Nat.reduceLeDiff,Nat.reduceAdd,Nat.reduceSub,Nat.reduceMul,Nat.reduceBEq,Nat.reduceBNe,Nat.reducePow,Int.reduceToNat,Int.reduceLE,Int.reduceLT,Int.reduceMul,Int.reduceEq,Int.reducePow,Int.reduceAdd,Int.reduceSub,Int.reduceNeg,reduceCtorEq,aH,Tryz.results15,hlt',hlf,hg0,hg1,h3',h4']) | (with_reducible first | refine af ?_ | refine aL ?_ | refine ai ?_ | refine aj ?_ | refine ay fun K hK=>?_ | refine ap ?_ | refine aS ?_ | refine bb ?_ | refine al ?_ | refine av ?_ | refine au ?_) | (with_reducible refine hK _ ?_;clear hK K) | ((with_reducible first | refine aG ?_ ?_ | refine ag ?_ ?_);(· decide)) | (with_reducible refine bp ?_ ?_;(· (try and_intros) <;> first | omega | assumption | (simp only [List.length_append,List.length_map,List.length_cons,List.length_nil] <;> omega))))
  have h4' : ((60 : Int) < (ss.length : Int)) = False:=eq_false (by omega)
  rw [decide_eq_true h3,decide_eq_true h4,Bool.true_and,Bool.true_and] at hT
  have hsf:=ra ss
  repeat' (first | (with_reducible refine hY _ ?_;clear hY Y) | ((with_reducible first | refine an rfl (ar fun K' hK'=>aa ?_) | refine hK' _ (ab fun Y hY=>aa ?_) | refine bl rfl (ab fun Y hY=>aa ?_) | refine ab fun Y hY=>aa ?_ | refine ar fun K' hK'=>aa ?_ | refine ae tk0 aH (ab fun Y hY=>aa ?_));(try clear hK' K');(try dsimp only [aop]);try simp only [go_sem,↓reduceIte,Nat.reduceEqDiff,Nat.reduceLT,Nat.reduceLeDiff,Nat.reduceAdd,Nat.reduceSub,Nat.reduceMul,Nat.reduceBEq,Nat.reduceBNe,Nat.reducePow,Int.reduceToNat,Int.reduceLE,Int.reduceLT,Int.reduceMul,Int.reduceEq,Int.reducePow,Int.reduceAdd,Int.reduceSub,Int.reduceNeg,reduceCtorEq,aH,Tryz.results15,hlt',hlf,hg0,hg1,h3',h4']) | (with_reducible first | refine af ?_ | refine aL ?_ | refine ai ?_ | refine aj ?_ | refine ay fun K hK=>?_ | refine ap ?_ | refine aq ?_ | refine al ?_ | refine av ?_ | refine bG ?_) | (with_reducible refine hK _ ?_;clear hK K) | ((with_reducible first | refine aG ?_ ?_ | refine ag ?_ ?_);(· decide)) | (with_reducible refine bp ?_ ?_;(· (try and_intros) <;> first | omega | assumption | (simp only [List.length_append,List.length_map,List.length_cons,List.length_nil] <;> omega))))
  refine bK (α:=Nat) (fun k=>[(1,.loc 10001 0),(3,inA (i : Int)),(4,inA (k : Int)),(10001,.bc [mD ms,csA rs] 31)])
   (fun k=>k≤ss.length∧∀ j (hj : j < ss.length),j < k→decide (ss[j].parts.length≤70) = true) (fun k=>ss.length - k) 0 [1,3,4] ?_ ⟨Nat.zero_le _,fun j _ hj=>absurd hj (Nat.not_lt_zero _)⟩ ?_
  ·simp only [go_sem,↓reduceIte,Nat.reduceEqDiff,Nat.reduceLT,Nat.reduceLeDiff,Nat.reduceAdd,Nat.reduceSub,Nat.reduceMul,Nat.reduceBEq,Nat.reduceBNe,Nat.reducePow,Int.reduceToNat,Int.reduceLE,Int.reduceLT,Int.reduceMul,Int.reduceEq,Int.reducePow,Int.reduceAdd,Int.reduceSub,Int.reduceNeg,reduceCtorEq] <;> rfl
  rintro k ⟨hk,hak⟩ ihk
  by_cases hkl : k < ss.length
  ·have hkl' : ((k : Int) < (ss.length : Int)) = True:=eq_true (by omega)
   have hkw2:=cf (n:=k) (by omega)
   have hgk:=vj hkl
   by_cases h5 : ss[k].parts.length≤70
   ·have ihk':=ihk (k + 1) ⟨by omega,fun j hj hjk=>by
     by_cases e2 : j < k
     ·exact hak j hj e2
     ·obtain rfl : j = k:=by omega
      exact decide_eq_true h5⟩ (by omega)
    have h5' : ((70 : Int) < (ss[k].parts.length : Int)) = False:=eq_false (by omega)
    clear ihk hak ihx ha hT
    generalize ss[k].parts = P at *
    repeat' (first | (with_reducible refine hY _ ?_;clear hY Y) | ((with_reducible first | refine an rfl (ar fun K' hK'=>aa ?_) | refine hK' _ (ab fun Y hY=>aa ?_) | refine ab fun Y hY=>aa ?_ | refine ae tk0 aH (ab fun Y hY=>aa ?_));(try clear hK' K');(try dsimp only [aop]);try simp only [go_sem,↓reduceIte,Nat.reduceEqDiff,Nat.reduceLT,Nat.reduceLeDiff,Nat.reduceAdd,Nat.reduceSub,Nat.reduceMul,Nat.reduceBEq,Nat.reduceBNe,Nat.reducePow,Int.reduceToNat,Int.reduceLE,Int.reduceLT,Int.reduceMul,Int.reduceEq,Int.reducePow,Int.reduceAdd,Int.reduceSub,Int.reduceNeg,reduceCtorEq,aH,Tryz.results15,hlt',hlf,hg0,hg1,hsf,hkl',hkw2,hgk,h5']) | (with_reducible first | refine af ?_ | refine ai ?_ | refine aj ?_ | refine ay fun K hK=>?_ | refine ap ?_ | refine aq ?_ | refine aU ?_ | refine al ?_ | refine av ?_) | (with_reducible refine hK _ ?_;clear hK K) | ((with_reducible refine ag ?_ ?_);(· decide)) | (with_reducible refine bp ?_ ?_;(· (try and_intros) <;> first | omega | assumption | (simp only [List.length_append,List.length_map,List.length_cons,List.length_nil] <;> omega))))
    refine bi [1,3,4] (by simp only [go_sem,↓reduceIte,Nat.reduceEqDiff,Nat.reduceLT,Nat.reduceLeDiff,Nat.reduceAdd,Nat.reduceSub,Nat.reduceMul,Nat.reduceBEq,Nat.reduceBNe,Nat.reducePow,Int.reduceToNat,Int.reduceLE,Int.reduceLT,Int.reduceMul,Int.reduceEq,Int.reducePow,Int.reduceAdd,Int.reduceSub,Int.reduceNeg,reduceCtorEq];exact rfl) ?_
    exact ihk'
   ·rw [rO hkl (decide_eq_false h5)] at hT
    rw [ha hT]
    have h5' : ((70 : Int) < (ss[k].parts.length : Int)) = True:=eq_true (by omega)
    clear ihk hak ihx ha hT
    generalize ss[k].parts = P at *
    repeat' (first | (with_reducible refine hY _ ?_;clear hY Y) | ((with_reducible first | refine an rfl (ar fun K' hK'=>aa ?_) | refine hK' _ (ab fun Y hY=>aa ?_) | refine ab fun Y hY=>aa ?_ | refine ae tk0 aH (ab fun Y hY=>aa ?_) | refine aa ?_ | refine ao ?_);(try clear hK' K');(try dsimp only [aop]);try simp only [go_sem,↓reduceIte,Nat.reduceEqDiff,Nat.reduceLT,Nat.reduceLeDiff,Nat.reduceAdd,Nat.reduceSub,Nat.reduceMul,Nat.reduceBEq,Nat.reduceBNe,Nat.reducePow,Int.reduceToNat,Int.reduceLE,Int.reduceLT,Int.reduceMul,Int.reduceEq,Int.reducePow,Int.reduceAdd,Int.reduceSub,Int.reduceNeg,reduceCtorEq,aH,Tryz.results15,hlt',hlf,hg0,hg1,hsf,hkl',hkw2,hgk,h5']) | (with_reducible first | refine af ?_ | refine ai ?_ | refine aj ?_ | refine ay fun K hK=>?_ | refine ap ?_ | refine aS ?_ | refine bb ?_ | refine al ?_ | refine av ?_ | refine au ?_) | (with_reducible refine hK _ ?_;clear hK K) | ((with_reducible refine ag ?_ ?_);(· decide)) | (with_reducible refine bp ?_ ?_;(· (try and_intros) <;> first | omega | assumption | (simp only [List.length_append,List.length_map,List.length_cons,List.length_nil] <;> omega))))
  ·have hkl' : ((k : Int) < (ss.length : Int)) = False:=eq_false (by omega)
   have ih':=ihx (hT.trans (rP fun j hj=>hak j hj (by omega)))
   clear ihk hak ihx ha hT
   repeat' (first | (with_reducible refine hY _ ?_;clear hY Y) | ((with_reducible first | refine an rfl (ar fun K' hK'=>aa ?_) | refine hK' _ (ab fun Y hY=>aa ?_) | refine ab fun Y hY=>aa ?_ | refine ae tk0 aH (ab fun Y hY=>aa ?_));(try clear hK' K');(try dsimp only [aop]);try simp only [go_sem,↓reduceIte,Nat.reduceEqDiff,Nat.reduceLT,Nat.reduceLeDiff,Nat.reduceAdd,Nat.reduceSub,Nat.reduceMul,Nat.reduceBEq,Nat.reduceBNe,Nat.reducePow,Int.reduceToNat,Int.reduceLE,Int.reduceLT,Int.reduceMul,Int.reduceEq,Int.reducePow,Int.reduceAdd,Int.reduceSub,Int.reduceNeg,reduceCtorEq,aH,Tryz.results15,hlt',hlf,hg0,hg1,hsf,hkl',hkw]) | (with_reducible first | refine af ?_ | refine ai ?_ | refine aj ?_ | refine ay fun K hK=>?_ | refine aq ?_ | refine bC ?_ | refine aU ?_ | refine bg ?_ | refine bf ?_) | (with_reducible refine hK _ ?_;clear hK K) | ((with_reducible refine ag ?_ ?_);(· decide)) | (with_reducible refine bp ?_ ?_;(· (try and_intros) <;> first | omega | assumption | (simp only [List.length_append,List.length_map,List.length_cons,List.length_nil] <;> omega))))
   refine bi [1,3] (by simp only [go_sem,↓reduceIte,Nat.reduceEqDiff,Nat.reduceLT,Nat.reduceLeDiff,Nat.reduceAdd,Nat.reduceSub,Nat.reduceMul,Nat.reduceBEq,Nat.reduceBNe,Nat.reducePow,Int.reduceToNat,Int.reduceLE,Int.reduceLT,Int.reduceMul,Int.reduceEq,Int.reducePow,Int.reduceAdd,Int.reduceSub,Int.reduceNeg,reduceCtorEq];exact rfl) ?_
   exact ih'
 have hlt' : ((i : Int) < (ms.length : Int)) = False:=eq_false (by omega)
 rw [rP fun j hj=>hall j hj (by omega),Bool.true_and] at hE
 clear ih hall
 generalize ltC ⟨ms,rs⟩ = R at *
 repeat' (first | (with_reducible refine hY _ ?_;clear hY Y) | ((with_reducible first | refine an rfl (ar fun K' hK'=>aa ?_) | refine hK' _ (ab fun Y hY=>aa ?_) | refine ab fun Y hY=>aa ?_ | refine ae tk0 aH (ab fun Y hY=>aa ?_));(try clear hK' K');(try dsimp only [aop]);try simp only [go_sem,↓reduceIte,Nat.reduceEqDiff,Nat.reduceLT,Nat.reduceLeDiff,Nat.reduceAdd,Nat.reduceSub,Nat.reduceMul,Nat.reduceBEq,Nat.reduceBNe,Nat.reducePow,Int.reduceToNat,Int.reduceLE,Int.reduceLT,Int.reduceMul,Int.reduceEq,Int.reducePow,Int.reduceAdd,Int.reduceSub,Int.reduceNeg,reduceCtorEq,aH,Tryz.results15,hlt']) | (with_reducible first | refine af ?_ | refine ai ?_ | refine aj ?_ | refine ay fun K hK=>?_ | refine aq ?_ | refine bC ?_ | refine bg ?_ | refine al ?_ | refine bf ?_ | refine bG ?_) | (with_reducible refine hK _ ?_;clear hK K) | ((with_reducible refine ag ?_ ?_);(· decide)))
 refine bK (α:=Nat) (fun i=>[(1,.loc 10001 0),(5,inA (i : Int)),(10001,.bc [mD ms,csA rs] 31)])
  (fun i=>i≤rs.length∧∀ j (hj : j < rs.length),j < i→decide (rs[j].length≤60) = true) (fun i=>rs.length - i) 0 [1,5] ?_ ⟨Nat.zero_le _,fun j _ hj=>absurd hj (Nat.not_lt_zero _)⟩ ?_
 ·simp only [go_sem,↓reduceIte,Nat.reduceEqDiff,Nat.reduceLT,Nat.reduceLeDiff,Nat.reduceAdd,Nat.reduceSub,Nat.reduceMul,Nat.reduceBEq,Nat.reduceBNe,Nat.reducePow,Int.reduceToNat,Int.reduceLE,Int.reduceLT,Int.reduceMul,Int.reduceEq,Int.reducePow,Int.reduceAdd,Int.reduceSub,Int.reduceNeg,reduceCtorEq] <;> rfl
 rintro k ⟨hk,hak⟩ ihk
 by_cases hkl : k < rs.length
 ·have hkl' : ((k : Int) < (rs.length : Int)) = True:=eq_true (by omega)
  have hkw:=cf (n:=k) (by omega)
  have hgk:=ly hkl
  by_cases h5 : rs[k].length≤60
  ·have ihk':=ihk (k + 1) ⟨by omega,fun j hj hjk=>by
    by_cases e2 : j < k
    ·exact hak j hj e2
    ·obtain rfl : j = k:=by omega
     exact decide_eq_true h5⟩ (by omega)
   have h5' : ((60 : Int) < (rs[k].length : Int)) = False:=eq_false (by omega)
   clear ihk hak hE
   generalize rs[k] = P at *
   repeat' (first | (with_reducible refine hY _ ?_;clear hY Y) | ((with_reducible first | refine an rfl (ar fun K' hK'=>aa ?_) | refine hK' _ (ab fun Y hY=>aa ?_) | refine ab fun Y hY=>aa ?_ | refine ae tk0 aH (ab fun Y hY=>aa ?_));(try clear hK' K');(try dsimp only [aop]);try simp only [go_sem,↓reduceIte,Nat.reduceEqDiff,Nat.reduceLT,Nat.reduceLeDiff,Nat.reduceAdd,Nat.reduceSub,Nat.reduceMul,Nat.reduceBEq,Nat.reduceBNe,Nat.reducePow,Int.reduceToNat,Int.reduceLE,Int.reduceLT,Int.reduceMul,Int.reduceEq,Int.reducePow,Int.reduceAdd,Int.reduceSub,Int.reduceNeg,reduceCtorEq,aH,Tryz.results15,hrf,hkl',hkw,hgk,h5']) | (with_reducible first | refine af ?_ | refine ai ?_ | refine aj ?_ | refine ay fun K hK=>?_ | refine ap ?_ | refine aq ?_ | refine aU ?_ | refine al ?_ | refine av ?_) | (with_reducible refine hK _ ?_;clear hK K) | ((with_reducible refine ag ?_ ?_);(· decide)) | (with_reducible refine bp ?_ ?_;(· (try and_intros) <;> first | omega | assumption | (simp only [List.length_append,List.length_map,List.length_cons,List.length_nil] <;> omega))))
   refine bi [1,5] (by simp only [go_sem,↓reduceIte,Nat.reduceEqDiff,Nat.reduceLT,Nat.reduceLeDiff,Nat.reduceAdd,Nat.reduceSub,Nat.reduceMul,Nat.reduceBEq,Nat.reduceBNe,Nat.reducePow,Int.reduceToNat,Int.reduceLE,Int.reduceLT,Int.reduceMul,Int.reduceEq,Int.reducePow,Int.reduceAdd,Int.reduceSub,Int.reduceNeg,reduceCtorEq];exact rfl) ?_
   exact ihk'
  ·rw [rO hkl (decide_eq_false h5)] at hE
   rw [hE]
   have h5' : ((60 : Int) < (rs[k].length : Int)) = True:=eq_true (by omega)
   clear ihk hak hE
   generalize rs[k] = P at *
   repeat' (first | (with_reducible refine hY _ ?_;clear hY Y) | ((with_reducible first | refine an rfl (ar fun K' hK'=>aa ?_) | refine hK' _ (ab fun Y hY=>aa ?_) | refine ab fun Y hY=>aa ?_ | refine ae tk0 aH (ab fun Y hY=>aa ?_) | refine aa ?_ | refine ao ?_);(try clear hK' K');(try dsimp only [aop]);try simp only [go_sem,↓reduceIte,Nat.reduceEqDiff,Nat.reduceLT,Nat.reduceLeDiff,Nat.reduceAdd,Nat.reduceSub,Nat.reduceMul,Nat.reduceBEq,Nat.reduceBNe,Nat.reducePow,Int.reduceToNat,Int.reduceLE,Int.reduceLT,Int.reduceMul,Int.reduceEq,Int.reducePow,Int.reduceAdd,Int.reduceSub,Int.reduceNeg,reduceCtorEq,aH,Tryz.results15,hrf,hkl',hkw,hgk,h5']) | (with_reducible first | refine af ?_ | refine ai ?_ | refine aj ?_ | refine ay fun K hK=>?_ | refine ap ?_ | refine aS ?_ | refine bb ?_ | refine al ?_ | refine av ?_ | refine au ?_) | (with_reducible refine hK _ ?_;clear hK K) | ((with_reducible refine ag ?_ ?_);(· decide)) | (with_reducible refine bp ?_ ?_;(· (try and_intros) <;> first | omega | assumption | (simp only [List.length_append,List.length_map,List.length_cons,List.length_nil] <;> omega))))
 ·have hkl' : ((k : Int) < (rs.length : Int)) = False:=eq_false (by omega)
  rw [hE,rP fun j hj=>hak j hj (by omega)]
  clear ihk hak hE
  repeat' (first | (with_reducible refine hY _ ?_;clear hY Y) | ((with_reducible first | refine an rfl (ar fun K' hK'=>aa ?_) | refine hK' _ (ab fun Y hY=>aa ?_) | refine ab fun Y hY=>aa ?_ | refine ae tk0 aH (ab fun Y hY=>aa ?_) | refine aa ?_ | refine ao ?_);(try clear hK' K');(try dsimp only [aop]);try simp only [go_sem,↓reduceIte,Nat.reduceEqDiff,Nat.reduceLT,Nat.reduceLeDiff,Nat.reduceAdd,Nat.reduceSub,Nat.reduceMul,Nat.reduceBEq,Nat.reduceBNe,Nat.reducePow,Int.reduceToNat,Int.reduceLE,Int.reduceLT,Int.reduceMul,Int.reduceEq,Int.reducePow,Int.reduceAdd,Int.reduceSub,Int.reduceNeg,reduceCtorEq,aH,Tryz.results15,hkl']) | (with_reducible first | refine af ?_ | refine ai ?_ | refine aj ?_ | refine ay fun K hK=>?_ | refine aq ?_ | refine bC ?_ | refine bg ?_ | refine au ?_ | refine bf ?_) | (with_reducible refine hK _ ?_;clear hK K) | ((with_reducible refine ag ?_ ?_);(· decide)))
def smC (f : Fo) (c : Crt) : Bool:=ltC c && decide (0≤lgF f 400 200)
def cZ : Nat→List Nat
 | 0=>[0,1]
 | 1=>[2,3]
 | _=>[]
set_option maxRecDepth 100000 in
set_option maxHeartbeats 8000000 in
theorem uZ (f : Fo) (c : Crt) (hok : OkF f) (hc : OkC c) : AFn Tryz.prog 7 [.agg (foA f),.agg (xU c)] [] (.c (.bool (smC f c))) []:=by
 have h1:=yK f hok 400 200 (by decide) (by decide) (by decide) (by decide)
 have h2:=sJ c hc
 unfold smC
 generalize lgF f 400 200 = Z at *
 obtain ⟨k,l,ks⟩:=f
 simp only [foA] at h1 ⊢
 generalize cD ks = KS at *
 generalize ltC c = B at *
 cases B
 ·refine aD [] Tryz.func7 rfl Tryz.ntmps7 (Nat.le_of_ble_eq_true rfl) (Nat.le_of_ble_eq_true rfl) fun w0 G0 B0 Pr hB0=>?_
  simp only [aO,aA,List.cons_append,List.nil_append]
  repeat' (first | (with_reducible refine hY _ ?_;clear hY Y) | ((with_reducible first | refine an rfl (ar fun K' hK'=>aa ?_) | refine hK' _ (ab fun Y hY=>aa ?_) | refine bl rfl (ab fun Y hY=>aa ?_) | refine ab fun Y hY=>aa ?_ | refine ae tk0 cZ (ab fun Y hY=>aa ?_) | refine aa ?_ | refine ao ?_);(try clear hK' K');(try dsimp only [aop]);try simp only [go_sem,↓reduceIte,Nat.reduceEqDiff,Nat.reduceLT,Nat.reduceLeDiff,Nat.reduceAdd,Nat.reduceSub,Nat.reduceMul,Nat.reduceBEq,Nat.reduceBNe,Nat.reducePow,Int.reduceToNat,Int.reduceLE,Int.reduceLT,Int.reduceMul,Int.reduceEq,Int.reducePow,Int.reduceAdd,Int.reduceSub,Int.reduceNeg,reduceCtorEq,cZ,Tryz.results7]) | (with_reducible first | refine af ?_ | refine bh rfl ?_ | refine cS ?_ ?_ | refine ai ?_ | refine aj ?_ | refine ay fun K hK=>?_ | refine au ?_) | (with_reducible refine hK _ ?_;clear hK K) | ((with_reducible refine aG ?_ ?_);(· decide)) | (with_reducible refine ah (h2) ?_))
 ·rw [Bool.true_and]
  refine aD [] Tryz.func7 rfl Tryz.ntmps7 (Nat.le_of_ble_eq_true rfl) (Nat.le_of_ble_eq_true rfl) fun w0 G0 B0 Pr hB0=>?_
  simp only [aO,aA,List.cons_append,List.nil_append]
  repeat' (first | (with_reducible refine hY _ ?_;clear hY Y) | ((with_reducible first | refine an rfl (ar fun K' hK'=>aa ?_) | refine hK' _ (ab fun Y hY=>aa ?_) | refine bl rfl (ab fun Y hY=>aa ?_) | refine ab fun Y hY=>aa ?_ | refine ar fun K' hK'=>aa ?_ | refine ae tk0 cZ (ab fun Y hY=>aa ?_) | refine aa ?_ | refine ao ?_);(try clear hK' K');(try dsimp only [aop]);try simp only [go_sem,↓reduceIte,Nat.reduceEqDiff,Nat.reduceLT,Nat.reduceLeDiff,Nat.reduceAdd,Nat.reduceSub,Nat.reduceMul,Nat.reduceBEq,Nat.reduceBNe,Nat.reducePow,Int.reduceToNat,Int.reduceLE,Int.reduceLT,Int.reduceMul,Int.reduceEq,Int.reducePow,Int.reduceAdd,Int.reduceSub,Int.reduceNeg,reduceCtorEq,cZ,Tryz.results7]) | (with_reducible first | refine af ?_ | refine aL ?_ | refine ai ?_ | refine aj ?_ | refine ay fun K hK=>?_ | refine au ?_) | (with_reducible refine hK _ ?_;clear hK K) | ((with_reducible refine aG ?_ ?_);(· decide)) | (with_reducible refine ah (h2) ?_) | (with_reducible refine ah (h1) ?_))
end Go.Proofs.YtmpdocplcgbpkaaGreatDoor
