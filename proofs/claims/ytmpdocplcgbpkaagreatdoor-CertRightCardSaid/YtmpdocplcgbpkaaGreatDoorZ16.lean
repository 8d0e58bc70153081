/- Cut in K: numbers rounded up; a line, if it may be one. Normalizing: plain. No program is in sight. -/
import Derived.Test.YtmpdocplcgbpkaaGreatDoorZ15
import Derived.Test.YtmpdocplcgbpkaaGreatDoorZ9
namespace Go.Proofs.YtmpdocplcgbpkaaGreatDoor
set_option linter.unusedSimpArgs false
set_option linter.unusedVariables false
open Go.RowKit
theorem kQ (a g : Int) : -(a.natAbs : Int)≤a.tdiv g∧a.tdiv g≤(a.natAbs : Int):=by
 have h:=Int.natAbs_tdiv a g
 have h2 : a.natAbs.div g.natAbs≤a.natAbs:=Nat.div_le_self _ _
 omega
theorem tdm (a g : Int) (hg : 1≤g) : a.tdiv g * g + a.tmod g = a∧-g < a.tmod g∧a.tmod g < g:=by
 refine ⟨by rw [Int.mul_comm];exact Int.mul_tdiv_add_tmod a g,?_,?_⟩
 ·have h1:=Int.natAbs_tmod a g
  have h2 : a.natAbs % g.natAbs < g.natAbs:=Nat.mod_lt _ (by omega)
  omega
 ·exact Int.tmod_lt_of_pos a (by omega)
def er : Nat→List Nat
 | 0=>[0,1]
 | 1=>[0,1]
 | 2=>[0,1,5]
 | 3=>[5]
 | 4=>[5]
 | _=>[]
set_option maxRecDepth 100000 in
theorem BN (a g : Int) (hg : 1≤g∧g≤1073741824) (ha : -1125899906842624≤a∧a≤1125899906842624) : AFn Tryz.prog 130 [inA a,inA g] [] (inA (upZ a g)) []:=by
 have hb:=kQ a g
 have hg0 : (g = 0) = False:=eq_false (by omega)
 have hq : IntKind.i64.wrap (a.tdiv g) = a.tdiv g:=aY (by omega) (by omega)
 have hq1 : IntKind.i64.wrap (a.tdiv g + 1) = a.tdiv g + 1:=aY (by omega) (by omega)
 unfold upZ
 by_cases hr : 0 < a.tmod g
 ·rw [if_pos hr]
  refine aD [] Tryz.func130 rfl Tryz.ntmps130 (Nat.le_of_ble_eq_true rfl) (Nat.le_of_ble_eq_true rfl) fun w0 G0 B0 Pr hB0=>?_
  simp only [aO,aA,List.cons_append,List.nil_append]
  repeat' (first | (with_reducible refine hY _ ?_;clear hY Y) | ((with_reducible first | refine an rfl (ar fun K' hK'=>aa ?_) | refine hK' _ (ab fun Y hY=>aa ?_) | refine ab fun Y hY=>aa ?_ | refine ae tk0 er (ab fun Y hY=>aa ?_) | refine aa ?_ | refine ao ?_);(try clear hK' K');(try dsimp only [aop]);try simp only [go_sem,↓reduceIte,Nat.reduceEqDiff,Nat.reduceLT,Nat.reduceLeDiff,Nat.reduceAdd,Nat.reduceSub,Nat.reduceMul,Nat.reduceBEq,Nat.reduceBNe,Nat.reducePow,Int.reduceToNat,Int.reduceLE,Int.reduceLT,Int.reduceMul,Int.reduceEq,Int.reducePow,Int.reduceAdd,Int.reduceSub,Int.reduceNeg,reduceCtorEq,er,Tryz.results130,hg0,hq,hq1,hr]) | (with_reducible first | refine af ?_ | refine ai ?_ | refine aj ?_ | refine ay fun K hK=>?_ | refine ap ?_ | refine au ?_) | (with_reducible refine hK _ ?_;clear hK K) | ((with_reducible refine ag ?_ ?_);(· decide)))
 ·rw [if_neg hr,Int.add_zero]
  refine aD [] Tryz.func130 rfl Tryz.ntmps130 (Nat.le_of_ble_eq_true rfl) (Nat.le_of_ble_eq_true rfl) fun w0 G0 B0 Pr hB0=>?_
  simp only [aO,aA,List.cons_append,List.nil_append]
  repeat' (first | (with_reducible refine hY _ ?_;clear hY Y) | ((with_reducible first | refine an rfl (ar fun K' hK'=>aa ?_) | refine hK' _ (ab fun Y hY=>aa ?_) | refine ab fun Y hY=>aa ?_ | refine ae tk0 er (ab fun Y hY=>aa ?_) | refine aa ?_ | refine ao ?_);(try clear hK' K');(try dsimp only [aop]);try simp only [go_sem,↓reduceIte,Nat.reduceEqDiff,Nat.reduceLT,Nat.reduceLeDiff,Nat.reduceAdd,Nat.reduceSub,Nat.reduceMul,Nat.reduceBEq,Nat.reduceBNe,Nat.reducePow,Int.reduceToNat,Int.reduceLE,Int.reduceLT,Int.reduceMul,Int.reduceEq,Int.reducePow,Int.reduceAdd,Int.reduceSub,Int.reduceNeg,reduceCtorEq,er,Tryz.results130,hg0,hq,hq1,hr]) | (with_reducible first | refine af ?_ | refine ai ?_ | refine aj ?_ | refine ay fun K hK=>?_ | refine aq ?_ | refine av ?_ | refine au ?_) | (with_reducible refine hK _ ?_;clear hK K) | ((with_reducible refine ag ?_ ?_);(· decide)))
def ll (q : Nat × Ln) : AV:=.tup [.agg (if q.1 = 0 then lnA q.2 else [inA 0,.sl [] 0 .full]),b9 q.1]
def pL (l : Ln) : Nat × Ln:=if !cX l.c || l.t.any (fun m=>!cX m.2) then (3,⟨0,[]⟩) else if 64 < l.t.length then (2,⟨0,[]⟩) else (0,l)
theorem ke (l : Ln) : ll (3,l) = .tup [.agg [inA 0,.sl [] 0 .full],.ifc 50 (.c (.int .i64 3))]:=rfl
theorem w5 (l : Ln) : ll (2,l) = .tup [.agg [inA 0,.sl [] 0 .full],.ifc 50 (.c (.int .i64 2))]:=rfl
theorem pH (l : Ln) : ll (1,l) = .tup [.agg [inA 0,.sl [] 0 .full],.ifc 50 (.c (.int .i64 1))]:=rfl
theorem w6 (l : Ln) : ll (6,l) = .tup [.agg [inA 0,.sl [] 0 .full],.ifc 50 (.c (.int .i64 6))]:=rfl
theorem A3 (l : Ln) : ll (7,l) = .tup [.agg [inA 0,.sl [] 0 .full],.ifc 50 (.c (.int .i64 7))]:=rfl
theorem sL {e : Nat} (h : e ≠ 0) (l : Ln) : ll (e,l) = .tup [.agg [inA 0,.sl [] 0 .full],b9 e]:=by unfold ll;rw [if_neg h]
theorem iU (l : Ln) : ll (0,l) = .tup [.agg (lnA l),.c .nilIface]:=rfl
theorem uh {t : List Tm} {p : Tm→Bool} {k : Nat} (h : k < t.length) (hk : (t.take k).any p = false) (h1 : p t[k] = false) : (t.take (k + 1)).any p = false:=by
 rw [List.take_succ_eq_append_getElem h,List.any_append,hk,List.any_cons,h1];rfl
theorem vF {t : List Tm} {p : Tm→Bool} {k : Nat} (h : k < t.length) (h1 : p t[k] = true) : t.any p = true:=List.any_eq_true.2 ⟨_,List.getElem_mem h,h1⟩
def b7 : Nat→List Nat
 | 0=>[0]
 | 1=>[1,2]
 | 2=>[1,2,12,13,14]
 | 3=>[1,2,12,13,14]
 | 4=>[1,2,5,12,13,14]
 | 5=>[2]
 | 6=>[1,2,12,13,14]
 | 7=>[1,2]
 | 8=>[2]
 | 9=>[1,2]
 | _=>[]
set_option maxRecDepth 100000 in
set_option maxHeartbeats 8000000 in
theorem zx (l : Ln) (hl : l.t.length≤1099511627776) : AFn Tryz.prog 133 [.agg (lnA l)] [] (ll (pL l)) []:=by
 obtain ⟨c,t⟩:=l
 have hs : ∀ b,(((0,c) :: t).any fun m : Tm=>!cX m.2) = b→pL ⟨c,t⟩ = if b then (3,⟨0,[]⟩) else if 64 < t.length then (2,⟨0,[]⟩) else (0,⟨c,t⟩):=fun b h=>by subst h;rfl
 have hfl:=cl t
 have hb1 : (1 + t.length) * 16≤140737488355328:=by have : t.length≤1099511627776:=hl;omega
 have hb2 : 1 + t.length≤140737488355328:=by omega
 refine aD [] Tryz.func133 rfl Tryz.ntmps133 (Nat.le_of_ble_eq_true rfl) (Nat.le_of_ble_eq_true rfl) fun w0 G0 B0 Pr hB0=>?_
 simp only [aO,aA,List.cons_append,List.nil_append]
 repeat' (first | (with_reducible refine hY _ ?_;clear hY Y) | ((with_reducible first | refine an rfl (ar fun K' hK'=>aa ?_) | refine hK' _ (ab fun Y hY=>aa ?_) | refine ae tk0 b7 (ab fun Y hY=>aa ?_));(try clear hK' K');(try dsimp only [aop]);try simp only [go_sem,↓reduceIte,Nat.reduceEqDiff,Nat.reduceLT,Nat.reduceLeDiff,Nat.reduceAdd,Nat.reduceSub,Nat.reduceMul,Nat.reduceBEq,Nat.reduceBNe,Nat.reducePow,Int.reduceToNat,Int.reduceLE,Int.reduceLT,Int.reduceMul,Int.reduceEq,Int.reducePow,Int.reduceAdd,Int.reduceSub,Int.reduceNeg,reduceCtorEq,b7,Tryz.results133,hfl]) | (with_reducible first | refine af ?_ | refine ai ?_ | refine aj ?_ | refine ay fun K hK=>?_ | refine al ?_ | refine bG ?_) | (with_reducible refine hK _ ?_;clear hK K) | (with_reducible refine bp ?_ ?_;(· (try and_intros) <;> first | omega | assumption | (simp only [List.length_append,List.length_map,List.length_cons,List.length_nil] <;> omega))))
 refine bK (α:=Nat) (fun k=>[(1,.loc 10001 0),(2,.loc 10002 0),(12,.sl (inA 0 :: inA c :: aJ t) (1 + t.length) (.tok 10012)),(13,inA ((1 + t.length : Nat) : Int)),(14,inA (k : Int)),(10001,.bc [inA c,.sl (aJ t) t.length .none] 24),(10002,.bc [inA 0,.sl [] 0 .full] 24),(10012,.bt (1 + t.length) 94)])
  (fun k=>k≤1 + t.length∧(((0,c) :: t).take k).any (fun m : Tm=>!cX m.2) = false) (fun k=>1 + t.length - k) 0 [1,2,12,13,14] ?_ ⟨Nat.zero_le _,rfl⟩ ?_
 ·simp only [go_sem,↓reduceIte,Nat.reduceEqDiff,Nat.reduceLT,Nat.reduceLeDiff,Nat.reduceAdd,Nat.reduceSub,Nat.reduceMul,Nat.reduceBEq,Nat.reduceBNe,Nat.reducePow,Int.reduceToNat,Int.reduceLE,Int.reduceLT,Int.reduceMul,Int.reduceEq,Int.reducePow,Int.reduceAdd,Int.reduceSub,Int.reduceNeg,reduceCtorEq] <;> rfl
 rintro k ⟨hk,hall⟩ ih
 have hNl : ((0,c) :: t : List Tm).length = 1 + t.length:=by rw [List.length_cons];omega
 by_cases hlt : k < 1 + t.length
 ·have hlt' : ((k : Int) < ((1 + t.length : Nat) : Int)) = True:=eq_true (by omega)
  have hkw:=cf (n:=k) (by omega)
  have hlT : k < ((0,c) :: t : List Tm).length:=by omega
  have hg0 : ((inA 0 :: inA c :: aJ t).drop (k * 2)).take 2 = _:=ez hlT
  have hfl2 : (inA 0 :: inA c :: aJ t).length = (1 + t.length) * 2:=by rw [List.length_cons,List.length_cons,hfl];omega
  have hyes : (!cX ((0,c) :: t : List Tm)[k].2) = true→_:=fun e=>hs true (vF (p:=fun m : Tm=>!cX m.2) hlT e)
  have hnx : (!cX ((0,c) :: t : List Tm)[k].2) = false→_:=fun e=>ih (k + 1) ⟨by omega,uh (p:=fun m : Tm=>!cX m.2) hlT hall e⟩ (by omega)
  clear ih hs hall
  generalize ((0,c) :: t : List Tm)[k] = m at *
  obtain ⟨v,x⟩:=m
  simp only at hyes hnx hg0
  generalize hCS : inA 0 :: inA c :: aJ t = CS at *
  by_cases hx1 : x < -1073741824
  ·rw [hyes (by unfold cX;simp;omega),if_pos trivial,ke]
   clear hnx hyes
   repeat' (first | (with_reducible refine hY _ ?_;clear hY Y) | ((with_reducible first | refine an rfl (ar fun K' hK'=>aa ?_) | refine hK' _ (ab fun Y hY=>aa ?_) | refine bl rfl (ab fun Y hY=>aa ?_) | refine ab fun Y hY=>aa ?_ | refine ae tk0 b7 (ab fun Y hY=>aa ?_) | refine aa ?_ | refine ao ?_);(try clear hK' K');(try dsimp only [aop]);try simp only [go_sem,↓reduceIte,Nat.reduceEqDiff,Nat.reduceLT,Nat.reduceLeDiff,Nat.reduceAdd,Nat.reduceSub,Nat.reduceMul,Nat.reduceBEq,Nat.reduceBNe,Nat.reducePow,Int.reduceToNat,Int.reduceLE,Int.reduceLT,Int.reduceMul,Int.reduceEq,Int.reducePow,Int.reduceAdd,Int.reduceSub,Int.reduceNeg,reduceCtorEq,b7,Tryz.results133,hlt',hfl2,hg0,hx1]) | (with_reducible first | refine af ?_ | refine bh rfl ?_ | refine cS ?_ ?_ | refine ai ?_ | refine aj ?_ | refine ay fun K hK=>?_ | refine ap ?_ | refine aS ?_ | refine bb ?_ | refine al ?_ | refine av ?_ | refine au ?_) | (with_reducible refine hK _ ?_;clear hK K) | ((with_reducible first | refine aG ?_ ?_ | refine ag ?_ ?_);(· decide)) | (with_reducible refine bp ?_ ?_;(· (try and_intros) <;> first | omega | assumption | (simp only [List.length_append,List.length_map,List.length_cons,List.length_nil] <;> omega))))
  by_cases hx2 : 1073741824 < x
  ·rw [hyes (by unfold cX;simp;omega),if_pos trivial,ke]
   clear hnx hyes
   repeat' (first | (with_reducible refine hY _ ?_;clear hY Y) | ((with_reducible first | refine an rfl (ar fun K' hK'=>aa ?_) | refine hK' _ (ab fun Y hY=>aa ?_) | refine bl rfl (ab fun Y hY=>aa ?_) | refine ab fun Y hY=>aa ?_ | refine ar fun K' hK'=>aa ?_ | refine ae tk0 b7 (ab fun Y hY=>aa ?_) | refine aa ?_ | refine ao ?_);(try clear hK' K');(try dsimp only [aop]);try simp only [go_sem,↓reduceIte,Nat.reduceEqDiff,Nat.reduceLT,Nat.reduceLeDiff,Nat.reduceAdd,Nat.reduceSub,Nat.reduceMul,Nat.reduceBEq,Nat.reduceBNe,Nat.reducePow,Int.reduceToNat,Int.reduceLE,Int.reduceLT,Int.reduceMul,Int.reduceEq,Int.reducePow,Int.reduceAdd,Int.reduceSub,Int.reduceNeg,reduceCtorEq,b7,Tryz.results133,hlt',hfl2,hg0,hx1,hx2]) | (with_reducible first | refine af ?_ | refine aL ?_ | refine ai ?_ | refine aj ?_ | refine ay fun K hK=>?_ | refine ap ?_ | refine aS ?_ | refine bb ?_ | refine al ?_ | refine av ?_ | refine au ?_) | (with_reducible refine hK _ ?_;clear hK K) | ((with_reducible first | refine aG ?_ ?_ | refine ag ?_ ?_);(· decide)) | (with_reducible refine bp ?_ ?_;(· (try and_intros) <;> first | omega | assumption | (simp only [List.length_append,List.length_map,List.length_cons,List.length_nil] <;> omega))))
  clear hyes
  repeat' (first | (with_reducible refine hY _ ?_;clear hY Y) | ((with_reducible first | refine an rfl (ar fun K' hK'=>aa ?_) | refine hK' _ (ab fun Y hY=>aa ?_) | refine bl rfl (ab fun Y hY=>aa ?_) | refine ab fun Y hY=>aa ?_ | refine ar fun K' hK'=>aa ?_ | refine ae tk0 b7 (ab fun Y hY=>aa ?_));(try clear hK' K');(try dsimp only [aop]);try simp only [go_sem,↓reduceIte,Nat.reduceEqDiff,Nat.reduceLT,Nat.reduceLeDiff,Nat.reduceAdd,Nat.reduceSub,Nat.reduceMul,Nat.reduceBEq,Nat.reduceBNe,Nat.reducePow,Int.reduceToNat,Int.reduceLE,Int.reduceLT,Int.reduceMul,Int.reduceEq,Int.reducePow,Int.reduceAdd,Int.reduceSub,Int.reduceNeg,reduceCtorEq,b7,Tryz.results133,hlt',hfl2,hg0,hx1,hx2,hkw]) | (with_reducible first | refine af ?_ | refine aL ?_ | refine ai ?_ | refine aj ?_ | refine ay fun K hK=>?_ | refine ap ?_ | refine aq ?_ | refine aU ?_ | refine al ?_ | refine av ?_) | (with_reducible refine hK _ ?_;clear hK K) | ((with_reducible first | refine aG ?_ ?_ | refine ag ?_ ?_);(· decide)) | (with_reducible refine bp ?_ ?_;(· (try and_intros) <;> first | omega | assumption | (simp only [List.length_append,List.length_map,List.length_cons,List.length_nil] <;> omega))))
  refine bi [1,2,12,13,14] (by simp only [go_sem,↓reduceIte,Nat.reduceEqDiff,Nat.reduceLT,Nat.reduceLeDiff,Nat.reduceAdd,Nat.reduceSub,Nat.reduceMul,Nat.reduceBEq,Nat.reduceBNe,Nat.reducePow,Int.reduceToNat,Int.reduceLE,Int.reduceLT,Int.reduceMul,Int.reduceEq,Int.reducePow,Int.reduceAdd,Int.reduceSub,Int.reduceNeg,reduceCtorEq];exact rfl) ?_
  exact hnx (by unfold cX;simp;omega)
 ·have hlt' : ((k : Int) < ((1 + t.length : Nat) : Int)) = False:=eq_false (by omega)
  rw [List.take_of_length_le (by omega)] at hall
  rw [hs false hall]
  clear ih hs
  generalize hCS : inA 0 :: inA c :: aJ t = CS at *
  by_cases h64 : 64 < t.length
  ·have h64' : ((64 : Int) < (t.length : Int)) = True:=eq_true (by omega)
   rw [if_neg (by decide),if_pos h64,w5]
   repeat' (first | (with_reducible refine hY _ ?_;clear hY Y) | ((with_reducible first | refine an rfl (ar fun K' hK'=>aa ?_) | refine hK' _ (ab fun Y hY=>aa ?_) | refine ab fun Y hY=>aa ?_ | refine ae tk0 b7 (ab fun Y hY=>aa ?_) | refine aa ?_ | refine ao ?_);(try clear hK' K');(try dsimp only [aop]);try simp only [go_sem,↓reduceIte,Nat.reduceEqDiff,Nat.reduceLT,Nat.reduceLeDiff,Nat.reduceAdd,Nat.reduceSub,Nat.reduceMul,Nat.reduceBEq,Nat.reduceBNe,Nat.reducePow,Int.reduceToNat,Int.reduceLE,Int.reduceLT,Int.reduceMul,Int.reduceEq,Int.reducePow,Int.reduceAdd,Int.reduceSub,Int.reduceNeg,reduceCtorEq,b7,Tryz.results133,hlt',h64']) | (with_reducible first | refine af ?_ | refine ai ?_ | refine aj ?_ | refine ay fun K hK=>?_ | refine ap ?_ | refine aq ?_ | refine bC ?_ | refine aS ?_ | refine bg ?_ | refine au ?_ | refine bf ?_) | (with_reducible refine hK _ ?_;clear hK K) | ((with_reducible refine ag ?_ ?_);(· decide)))
  ·have h64' : ((64 : Int) < (t.length : Int)) = False:=eq_false (by omega)
   rw [if_neg (by decide),if_neg h64,iU]
   repeat' (first | (with_reducible refine hY _ ?_;clear hY Y) | ((with_reducible first | refine an rfl (ar fun K' hK'=>aa ?_) | refine hK' _ (ab fun Y hY=>aa ?_) | refine ab fun Y hY=>aa ?_ | refine ae tk0 b7 (ab fun Y hY=>aa ?_) | refine aa ?_ | refine ao ?_);(try clear hK' K');(try dsimp only [aop]);try simp only [go_sem,↓reduceIte,Nat.reduceEqDiff,Nat.reduceLT,Nat.reduceLeDiff,Nat.reduceAdd,Nat.reduceSub,Nat.reduceMul,Nat.reduceBEq,Nat.reduceBNe,Nat.reducePow,Int.reduceToNat,Int.reduceLE,Int.reduceLT,Int.reduceMul,Int.reduceEq,Int.reducePow,Int.reduceAdd,Int.reduceSub,Int.reduceNeg,reduceCtorEq,b7,Tryz.results133,hlt',h64']) | (with_reducible first | refine af ?_ | refine ai ?_ | refine aj ?_ | refine ay fun K hK=>?_ | refine aq ?_ | refine bC ?_ | refine bg ?_ | refine av ?_ | refine au ?_ | refine bf ?_) | (with_reducible refine hK _ ?_;clear hK K) | ((with_reducible refine ag ?_ ?_);(· decide)))
end Go.Proofs.YtmpdocplcgbpkaaGreatDoor
namespace Go.Proofs.YtmpdocplcgbpkaaGreatDoor
set_option linter.unusedSimpArgs false
set_option linter.unusedVariables false
def eB : Nat→List Tm→Nat
 | g,[]=>g
 | g,m :: r=>eB (Nat.gcd g m.2.natAbs) r
theorem ji : ∀ (t : List Tm) (g : Nat),eB g t ∣ g∧∀ m ∈ t,eB g t ∣ m.2.natAbs
 | [],g=>⟨Nat.dvd_refl g,fun m hm=>absurd hm List.not_mem_nil⟩
 | m :: r,g=>by
  obtain ⟨h1,h2⟩:=ji r (Nat.gcd g m.2.natAbs)
  refine ⟨Nat.dvd_trans h1 (Nat.gcd_dvd_left _ _),fun x hx=>?_⟩
  rcases List.mem_cons.1 hx with rfl | hx
  ·exact Nat.dvd_trans h1 (Nat.gcd_dvd_right _ _)
  ·exact h2 x hx
theorem mr {t : List Tm} {g : Nat} {m : Tm} (hm : m ∈ t) (h : m.2 ≠ 0) : 0 < eB g t:=by
 rcases Nat.eq_zero_or_pos (eB g t) with e | e
 ·have:=(ji t g).2 m hm
  rw [e] at this
  have:=Nat.eq_zero_of_zero_dvd this
  omega
 ·exact e
theorem Bc (a g : Int) (hg : 1≤g) : -(a.natAbs : Int)≤upZ a g∧upZ a g≤(a.natAbs : Int):=by
 obtain ⟨e0,hr1,hr2⟩:=tdm a g hg
 obtain ⟨b1,b2⟩:=kQ a g
 unfold upZ
 by_cases hr : 0 < a.tmod g
 ·rw [if_pos hr]
  have ha : 0 < a:=by
   rcases Int.lt_or_le 0 a with h | h
   ·exact h
   ·have h1:=Int.tmod_nonneg g (show 0≤-a by omega)
    rw [Int.neg_tmod] at h1
    omega
  have hq:=Int.tdiv_nonneg (show 0≤a by omega) (show 0≤g by omega)
  have hm : a.tdiv g * 1≤a.tdiv g * g:=Int.mul_le_mul_of_nonneg_left hg hq
  omega
 ·rw [if_neg hr];omega
def jd (g : Int) (t : List Tm) : List Tm:=t.map fun m=>(m.1,m.2.tdiv g)
theorem je (g : Int) (t : List Tm) : (jd g t).length = t.length:=List.length_map ..
theorem ur (g : Int) {t : List Tm} {k : Nat} (h : k < t.length) : jd g (t.take (k + 1)) = jd g (t.take k) ++ [(t[k].1,t[k].2.tdiv g)]:=by
 unfold jd
 rw [List.take_succ_eq_append_getElem h,List.map_append];rfl
def gK (l : Ln) : Ln:=⟨upZ l.c (eB 0 l.t : Int),jd (eB 0 l.t : Int) l.t⟩
theorem vU {k : Int} {g : Nat} (hg : 0 < g) (hd : g ∣ k.natAbs) (hk : k ≠ 0) : k.tdiv (g : Int) ≠ 0∧-(k.natAbs : Int)≤k.tdiv (g : Int)∧k.tdiv (g : Int)≤(k.natAbs : Int):=by
 have hb:=kQ k (g : Int)
 refine ⟨fun e=>?_,hb⟩
 have h1:=Int.natAbs_tdiv k (g : Int)
 rw [e] at h1
 simp only [Int.natAbs_zero,Int.natAbs_natCast] at h1
 obtain ⟨q,hq⟩:=hd
 have h2 : k.natAbs.div g = q:=by show k.natAbs / g = q;rw [hq];exact Nat.mul_div_cancel_left q hg
 rw [h2] at h1
 subst h1
 omega
theorem m7 {g : Nat} (hg : 0 < g) : ∀ (last : Int) (t : List Tm),(∀ m ∈ t,g ∣ m.2.natAbs)→cU last t = true→cU last (jd (g : Int) t) = true
 | _,[],_,h=>h
 | last,m :: r,hd,h=>by
  have e : jd (g : Int) (m :: r) = (m.1,m.2.tdiv (g : Int)) :: jd (g : Int) r:=rfl
  rw [e]
  unfold cU at h ⊢
  rw [Bool.and_eq_true] at h ⊢
  refine ⟨?_,m7 hg _ r (fun x hx=>hd x (by simp [hx])) h.2⟩
  have h1:=h.1
  unfold jY kT cX at h1 ⊢
  simp only [Bool.and_eq_true,decide_eq_true_eq,Bool.not_eq_true',decide_eq_false_iff_not] at h1 ⊢
  have:=vU hg (hd m (by simp)) h1.2.2.1
  omega
theorem w2 {l : Ln} (h : cY l = true) (hne : l.t ≠ []) : cY (gK l) = true:=by
 obtain ⟨⟨c1,c2⟩,h64,hm⟩:=ef h
 have hts : cU (-1) l.t = true:=by unfold cY at h;simp only [Bool.and_eq_true] at h;exact h.2.2
 have hok:=fv _ _ hts
 obtain ⟨m,r,e⟩:=List.exists_cons_of_ne_nil hne
 have hg : 0 < eB 0 l.t:=mr (m:=m) (by rw [e];simp) (hok m (by rw [e];simp)).2.1
 have hu:=Bc l.c (eB 0 l.t : Int) (by omega)
 unfold cY gK
 simp only [Bool.and_eq_true]
 refine ⟨coefB_iff.2 (by omega),?_,m7 hg _ _ (ji _ _).2 hts⟩
 rw [je];exact decide_eq_true h64
def fT : Fo:=.mk 0 ⟨0,[]⟩ []
def fF : Fo:=.mk 1 ⟨0,[]⟩ []
def kA (t : List Tm) : Int:=(t.getD 0 (0,0)).2
def fh (l : Ln) : Nat × Fo :=
 if !cY l then (5,fT) else if l.t.length = 0 then (0,if l.c≤0 then fT else fF)
 else if 0 < kA (gK l).t then (0,.mk 2 (gK l) [])
 else if cX (1 - (gK l).c) then (0,.mk 4 ⟨0,[]⟩ [.mk 2 ⟨1 - (gK l).c,cz (-1) (gK l).t⟩ []]) else (3,fT)
def lh : Fo→Fo
 | .mk k l ks=>if k = 0 then fF else if k = 1 then fT else if k = 4 then ks.headD fT else .mk 4 ⟨0,[]⟩ [.mk k l ks]
def jT (l : Ln) : Ln:=⟨-l.c,cz (-1) l.t⟩
def gR (k : Int) (l : Ln) (no : Bool) : Nat × Fo :=
 if (fh l).1 ≠ 0 then ((fh l).1,fT)
 else if k = 2 then (0,if no then lh (fh l).2 else (fh l).2)
 else if (fh (jT l)).1 ≠ 0 then ((fh (jT l)).1,fT)
 else (0,if no then .mk 6 ⟨0,[]⟩ [lh (fh l).2,lh (fh (jT l)).2] else .mk 5 ⟨0,[]⟩ [(fh l).2,(fh (jT l)).2])
mutual
def dG : Fo→Bool→Nat × Fo
 | .mk k l ks,no =>
  if k = 2∨k = 3 then gR k l no
  else if k = 4 then i5 ks (!no)
  else if k = 5∨k = 6 then (if (dx ks no []).1 = 0 then (0,.mk (if no then 11 - k else k) ⟨0,[]⟩ (dx ks no []).2) else ((dx ks no []).1,fT))
  else if no then (0,lh (.mk k l ks)) else (0,.mk k l ks)
def i5 : List Fo→Bool→Nat × Fo
 | [],_=>(0,fT)
 | f :: _,no=>dG f no
def dx : List Fo→Bool→List Fo→Nat × List Fo
 | [],_,out=>(0,out)
 | f :: r,no,out=>if (dG f no).1 = 0 then dx r no (out ++ [(dG f no).2]) else ((dG f no).1,[])
end
end Go.Proofs.YtmpdocplcgbpkaaGreatDoor
