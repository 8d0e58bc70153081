/- Normalizing in K: a quotient rounded up, an opposite. Normalizing in K: a form's literal. Normalizing in K: leaves. -/
import Derived.Test.YtmpdocplcgbpkaaGreatDoorZ16
import Derived.Test.YtmpdocplcgbpkaaGreatDoorZ18
import Derived.Test.YtmpdocplcgbpkaaGreatDoorZ8
namespace Go.Proofs.YtmpdocplcgbpkaaGreatDoor
set_option linter.unusedSimpArgs false
set_option linter.unusedVariables false
open Go.RowKit
def dt : Nat → List Nat
 | 0 => [0,1]
 | 1 => [0,1]
 | 2 => [0,1,5]
 | 3 => [5]
 | 4 => [5]
 | _ => []
set_option maxRecDepth 100000 in
theorem zk (a g : Int) (hg : 1 ≤ g ∧ g ≤ 1073741824) (ha : -1125899906842624 ≤ a ∧ a ≤ 1125899906842624) : AFn Tryz.prog 119 [inA a,inA g] [] (inA (upZ a g)) [] := by
 have hb := kq a g
 have hg0 : (g = 0) = False := eq_false (by omega)
 have hq : IntKind.i64.wrap (a.tdiv g) = a.tdiv g := bQ (by omega) (by omega)
 have hq1 : IntKind.i64.wrap (a.tdiv g + 1) = a.tdiv g + 1 := bQ (by omega) (by omega)
 unfold upZ
 by_cases hr : 0 < a.tmod g
 ·rw [if_pos hr]
  refine bm [] Tryz.func119 rfl Tryz.ntmps119 (Nat.le_of_ble_eq_true rfl) (Nat.le_of_ble_eq_true rfl) fun w0 G0 B0 Pr hB0 => ?_
  simp only [bD,bj,List.cons_append,List.nil_append]
  repeat' (first | (with_reducible refine hY _ ?_;clear hY Y) | ((with_reducible first | refine aX rfl (aR fun K' hK' => aa ?_) | refine hK' _ (ab fun Y hY => aa ?_) | refine ab fun Y hY => aa ?_ | refine ag tk0 dt (ab fun Y hY => aa ?_) | refine aa ?_ | refine aH ?_);(try clear hK' K');(try dsimp only [aop]);try simp only [go_sem,↓reduceIte,Nat.reduceEqDiff,Nat.reduceLT,Nat.reduceLeDiff,Nat.reduceAdd,Nat.reduceSub,Nat.reduceMul,Nat.reduceBEq,Nat.reduceBNe,Nat.reducePow,Int.reduceToNat,Int.reduceLE,Int.reduceLT,Int.reduceMul,Int.reduceEq,Int.reducePow,Int.reduceAdd,Int.reduceSub,Int.reduceNeg,reduceCtorEq,dt,Tryz.results119,hg0,hq,hq1,hr]) | (with_reducible first | refine aI ?_ | refine aP ?_ | refine aS ?_ | refine bi fun K hK => ?_ | refine aD ?_ | refine aL ?_) | (with_reducible refine hK _ ?_;clear hK K) | ((with_reducible refine ai ?_ ?_);(· decide)))
 ·rw [if_neg hr,Int.add_zero]
  refine bm [] Tryz.func119 rfl Tryz.ntmps119 (Nat.le_of_ble_eq_true rfl) (Nat.le_of_ble_eq_true rfl) fun w0 G0 B0 Pr hB0 => ?_
  simp only [bD,bj,List.cons_append,List.nil_append]
  repeat' (first | (with_reducible refine hY _ ?_;clear hY Y) | ((with_reducible first | refine aX rfl (aR fun K' hK' => aa ?_) | refine hK' _ (ab fun Y hY => aa ?_) | refine ab fun Y hY => aa ?_ | refine ag tk0 dt (ab fun Y hY => aa ?_) | refine aa ?_ | refine aH ?_);(try clear hK' K');(try dsimp only [aop]);try simp only [go_sem,↓reduceIte,Nat.reduceEqDiff,Nat.reduceLT,Nat.reduceLeDiff,Nat.reduceAdd,Nat.reduceSub,Nat.reduceMul,Nat.reduceBEq,Nat.reduceBNe,Nat.reducePow,Int.reduceToNat,Int.reduceLE,Int.reduceLT,Int.reduceMul,Int.reduceEq,Int.reducePow,Int.reduceAdd,Int.reduceSub,Int.reduceNeg,reduceCtorEq,dt,Tryz.results119,hg0,hq,hq1,hr]) | (with_reducible first | refine aI ?_ | refine aP ?_ | refine aS ?_ | refine bi fun K hK => ?_ | refine aC ?_ | refine av ?_ | refine aL ?_) | (with_reducible refine hK _ ?_;clear hK K) | ((with_reducible refine ai ?_ ?_);(· decide)))
def ch : Nat → List Nat
 | 0 => [0]
 | 1 => [1,2]
 | 2 => [1,2,4]
 | 3 => [2]
 | 4 => [1,2,4]
 | 5 => [2]
 | 6 => [1,2,4]
 | 7 => [1,2]
 | 8 => [1,2]
 | _ => []
def zj : Fo → Prop
 | .mk k _ ks => k = 4 → ks ≠ []
set_option maxRecDepth 100000 in
set_option maxHeartbeats 8000000 in
theorem uS (f : Fo) (h4 : zj f) : AFn Tryz.prog 70 [.agg (foA f)] [] (.agg (foA (mc f))) [] := by
 obtain ⟨k,l,ks⟩ := f
 obtain ⟨c,t⟩ := l
 have e : mc (.mk k ⟨c,t⟩ ks) = if k = 0 then fF else if k = 1 then fT else if k = 4 then ks.headD fT else .mk 4 ⟨0,[]⟩ [.mk k ⟨c,t⟩ ks] := rfl
 rw [e]
 clear e
 by_cases h0 : k = 0
 ·rw [if_pos h0]
  subst h0
  refine nH (r := .agg [inA 1,inA 0,.sl [] 0 .full,.sl [] 0 .full]) ?_ 4 (by simp [wkA,wkD,fF,foA,cU,bn])
  simp only [foA]
  refine bm [] Tryz.func70 rfl Tryz.ntmps70 (Nat.le_of_ble_eq_true rfl) (Nat.le_of_ble_eq_true rfl) fun w0 G0 B0 Pr hB0 => ?_
  simp only [bD,bj,List.cons_append,List.nil_append]
  repeat' (first | (with_reducible refine hY _ ?_;clear hY Y) | ((with_reducible first | refine aX rfl (aR fun K' hK' => aa ?_) | refine hK' _ (ab fun Y hY => aa ?_) | refine ab fun Y hY => aa ?_ | refine ag tk0 ch (ab fun Y hY => aa ?_) | refine aa ?_ | refine aH ?_);(try clear hK' K');(try dsimp only [aop]);try simp only [go_sem,↓reduceIte,Nat.reduceEqDiff,Nat.reduceLT,Nat.reduceLeDiff,Nat.reduceAdd,Nat.reduceSub,Nat.reduceMul,Nat.reduceBEq,Nat.reduceBNe,Nat.reducePow,Int.reduceToNat,Int.reduceLE,Int.reduceLT,Int.reduceMul,Int.reduceEq,Int.reducePow,Int.reduceAdd,Int.reduceSub,Int.reduceNeg,reduceCtorEq,ch,Tryz.results70]) | (with_reducible first | refine aI ?_ | refine aP ?_ | refine aS ?_ | refine bi fun K hK => ?_ | refine aD ?_ | refine aQ ?_ | refine aA ?_ | refine ah ?_ | refine aL ?_) | (with_reducible refine hK _ ?_;clear hK K) | ((with_reducible refine ai ?_ ?_);(· decide)))
 rw [if_neg h0]
 have h0' : (k = 0) = False := eq_false h0
 by_cases h1 : k = 1
 ·rw [if_pos h1]
  subst h1
  refine nH (r := .agg [inA 0,inA 0,.sl [] 0 .full,.sl [] 0 .full]) ?_ 4 (by simp [wkA,wkD,fT,foA,cU,bn])
  simp only [foA]
  refine bm [] Tryz.func70 rfl Tryz.ntmps70 (Nat.le_of_ble_eq_true rfl) (Nat.le_of_ble_eq_true rfl) fun w0 G0 B0 Pr hB0 => ?_
  simp only [bD,bj,List.cons_append,List.nil_append]
  repeat' (first | (with_reducible refine hY _ ?_;clear hY Y) | ((with_reducible first | refine aX rfl (aR fun K' hK' => aa ?_) | refine hK' _ (ab fun Y hY => aa ?_) | refine ab fun Y hY => aa ?_ | refine ag tk0 ch (ab fun Y hY => aa ?_) | refine aa ?_ | refine aH ?_);(try clear hK' K');(try dsimp only [aop]);try simp only [go_sem,↓reduceIte,Nat.reduceEqDiff,Nat.reduceLT,Nat.reduceLeDiff,Nat.reduceAdd,Nat.reduceSub,Nat.reduceMul,Nat.reduceBEq,Nat.reduceBNe,Nat.reducePow,Int.reduceToNat,Int.reduceLE,Int.reduceLT,Int.reduceMul,Int.reduceEq,Int.reducePow,Int.reduceAdd,Int.reduceSub,Int.reduceNeg,reduceCtorEq,ch,Tryz.results70]) | (with_reducible first | refine aI ?_ | refine aP ?_ | refine aS ?_ | refine bi fun K hK => ?_ | refine aD ?_ | refine aC ?_ | refine aQ ?_ | refine aA ?_ | refine ah ?_ | refine aL ?_) | (with_reducible refine hK _ ?_;clear hK K) | ((with_reducible refine ai ?_ ?_);(· decide)))
 rw [if_neg h1]
 have h1' : (k = 1) = False := eq_false h1
 by_cases hk : k = 4
 ·rw [if_pos hk]
  subst hk
  obtain ⟨f0,r,rfl⟩ := List.exists_cons_of_ne_nil (h4 rfl)
  obtain ⟨k0,⟨c0,t0⟩,ks0⟩ := f0
  have hg0 : ((cU (.mk k0 ⟨c0,t0⟩ ks0 :: r)).drop 0).take 4 = [inA k0,inA c0,.sl (bn t0) t0.length .none,.sl (cU ks0) ks0.length .none] := by
   have := fh (l := .mk k0 ⟨c0,t0⟩ ks0 :: r) (i := 0) (by simp)
   simpa [foA] using this
  have hg1 : (cU (.mk k0 ⟨c0,t0⟩ ks0 :: r)).take 4 = [inA k0,inA c0,.sl (bn t0) t0.length .none,.sl (cU ks0) ks0.length .none] := by simpa using hg0
  have hfl := dy (.mk k0 ⟨c0,t0⟩ ks0 :: r)
  have hln : ((0 : Int) < (((.mk k0 ⟨c0,t0⟩ ks0 :: r : List Fo).length : Nat) : Int)) = True := eq_true (by rw [List.length_cons];omega)
  have hl4 : (4 ≤ (.mk k0 ⟨c0,t0⟩ ks0 :: r : List Fo).length * 4) = True := eq_true (by rw [List.length_cons];omega)
  simp only [List.headD,foA]
  generalize (.mk k0 ⟨c0,t0⟩ ks0 :: r : List Fo) = KS at *
  refine bm [] Tryz.func70 rfl Tryz.ntmps70 (Nat.le_of_ble_eq_true rfl) (Nat.le_of_ble_eq_true rfl) fun w0 G0 B0 Pr hB0 => ?_
  simp only [bD,bj,List.cons_append,List.nil_append]
  repeat' (first | (with_reducible refine hY _ ?_;clear hY Y) | ((with_reducible first | refine aX rfl (aR fun K' hK' => aa ?_) | refine hK' _ (ab fun Y hY => aa ?_) | refine ab fun Y hY => aa ?_ | refine ag tk0 ch (ab fun Y hY => aa ?_) | refine aa ?_ | refine aH ?_);(try clear hK' K');(try dsimp only [aop]);try simp only [go_sem,↓reduceIte,Nat.reduceEqDiff,Nat.reduceLT,Nat.reduceLeDiff,Nat.reduceAdd,Nat.reduceSub,Nat.reduceMul,Nat.reduceBEq,Nat.reduceBNe,Nat.reducePow,Int.reduceToNat,Int.reduceLE,Int.reduceLT,Int.reduceMul,Int.reduceEq,Int.reducePow,Int.reduceAdd,Int.reduceSub,Int.reduceNeg,reduceCtorEq,ch,Tryz.results70,hg0,hg1,hfl,hln,hl4]) | (with_reducible first | refine aI ?_ | refine aP ?_ | refine aS ?_ | refine bi fun K hK => ?_ | refine aD ?_ | refine aC ?_ | refine aQ ?_ | refine aA ?_ | refine ah ?_ | refine aL ?_) | (with_reducible refine hK _ ?_;clear hK K) | ((with_reducible refine ai ?_ ?_);(· decide)))
 rw [if_neg hk]
 have hk' : (k = 4) = False := eq_false hk
 refine nH (r := .agg [inA 4,inA 0,.sl [] 0 .full,.sl [inA k,inA c,.sl (bn t) t.length .none,.sl (cU ks) ks.length .none] 1 .full]) ?_ 4 (by simp [wkA,wkD,foA,cU,bn])
 simp only [foA]
 refine bm [] Tryz.func70 rfl Tryz.ntmps70 (Nat.le_of_ble_eq_true rfl) (Nat.le_of_ble_eq_true rfl) fun w0 G0 B0 Pr hB0 => ?_
 simp only [bD,bj,List.cons_append,List.nil_append]
 repeat' (first | (with_reducible refine hY _ ?_;clear hY Y) | ((with_reducible first | refine aX rfl (aR fun K' hK' => aa ?_) | refine hK' _ (ab fun Y hY => aa ?_) | refine ab fun Y hY => aa ?_ | refine ag tk0 ch (ab fun Y hY => aa ?_) | refine aa ?_ | refine aH ?_);(try clear hK' K');(try dsimp only [aop]);try simp only [go_sem,↓reduceIte,Nat.reduceEqDiff,Nat.reduceLT,Nat.reduceLeDiff,Nat.reduceAdd,Nat.reduceSub,Nat.reduceMul,Nat.reduceBEq,Nat.reduceBNe,Nat.reducePow,Int.reduceToNat,Int.reduceLE,Int.reduceLT,Int.reduceMul,Int.reduceEq,Int.reducePow,Int.reduceAdd,Int.reduceSub,Int.reduceNeg,reduceCtorEq,ch,Tryz.results70,h0',h1',hk']) | (with_reducible first | refine aI ?_ | refine aP ?_ | refine aS ?_ | refine bi fun K hK => ?_ | refine aC ?_ | refine ay ?_ | refine ah ?_ | refine av ?_ | refine aL ?_) | (with_reducible refine hK _ ?_;clear hK K) | ((with_reducible refine ai ?_ ?_);(· decide)))
end Go.Proofs.YtmpdocplcgbpkaaGreatDoor
namespace Go.Proofs.YtmpdocplcgbpkaaGreatDoor
set_option linter.unusedSimpArgs false
set_option linter.unusedVariables false
open Go.RowKit
theorem dQ {P : Program} {f : FuncId} {args bxs bxs' : List AV} {r r' : AV} (h : AFn P f args bxs r bxs') (k : Nat) (e : wkD k r = r') : AFn P f args bxs r' bxs' := fun w G vs hst hX hvs hargs => by
 refine (h w G vs hst hX hvs hargs).mono fun e' w' ⟨v,G',h1,h2,h3⟩ => ⟨v,G',h1,e ▸ kw k h2,h3⟩
def gu (q : Nat × Fo) : AV := .tup [.agg (foA q.2),cK q.1]
theorem iB : gu (5,fT) = .tup [.agg [inA 0,inA 0,.sl [] 0 .none,.sl [] 0 .none],.ifc 50 (.c (.int .i64 5))] := rfl
theorem jb : gu (3,fT) = .tup [.agg [inA 0,inA 0,.sl [] 0 .none,.sl [] 0 .none],.ifc 50 (.c (.int .i64 3))] := rfl
theorem yT : gu (0,fT) = .tup [.agg [inA 0,inA 0,.sl [] 0 .none,.sl [] 0 .none],.c .nilIface] := rfl
theorem yS : gu (0,fF) = .tup [.agg [inA 1,inA 0,.sl [] 0 .none,.sl [] 0 .none],.c .nilIface] := rfl
theorem iP (k : Nat) (M : List Tm) : (bn M).map (wkD k) = bn M := oi _ (fun v => by cases k <;> rfl) M
def bI : Nat → List Nat
 | 0 => [0]
 | 1 => [1,2]
 | 2 => [1,2,4]
 | 3 => [2,4]
 | 4 => [1,2]
 | 5 => [1,2]
 | 6 => [2]
 | 7 => [2]
 | 8 => [1,2]
 | 9 => [1,2,5]
 | 10 => [1,2,5,6]
 | 11 => [2,5,6,34,35,36]
 | 12 => [2,5,6,34,35,36]
 | 13 => [2,5,6,8,34,35,36]
 | 14 => [2,5,6,34,35,36]
 | 15 => [2,6]
 | 16 => [2,6]
 | 17 => [2,6]
 | 18 => [2,9,10]
 | 19 => [2,10]
 | 20 => [2,9]
 | _ => []
set_option maxRecDepth 100000 in
set_option maxHeartbeats 16000000 in
theorem lY (l : Ln) (hgcd : dg l = true → AFn Tryz.prog 118 [.agg (lnA l)] [] (inA (eR 0 l.t : Int)) []) : AFn Tryz.prog 104 [.agg (lnA l)] [] (gu (fO l)) [] := by
 have hck := ew l
 unfold iw at hck
 cases hb : dg l with
 | false =>
  rw [hb,if_neg (by decide),dF] at hck
  rw [show fO l = (5,fT) by unfold fO;rw [hb];rfl,iB]
  refine dQ (r := .tup [.agg [inA 0,inA 0,.sl [] 0 .full,.sl [] 0 .full],.ifc 50 (.c (.int .i64 5))]) ?_ 4 (by simp [wkD])
  clear hgcd hb
  refine bm [] Tryz.func104 rfl Tryz.ntmps104 (Nat.le_of_ble_eq_true rfl) (Nat.le_of_ble_eq_true rfl) fun w0 G0 B0 Pr hB0 => ?_
  simp only [bD,bj,List.cons_append,List.nil_append]
  repeat' (first | (with_reducible refine hY _ ?_;clear hY Y) | ((with_reducible first | refine aX rfl (aR fun K' hK' => aa ?_) | refine hK' _ (ab fun Y hY => aa ?_) | refine ab fun Y hY => aa ?_ | refine ag tk0 bI (ab fun Y hY => aa ?_) | refine aa ?_ | refine aH ?_);(try clear hK' K');(try dsimp only [aop]);try simp only [go_sem,↓reduceIte,Nat.reduceEqDiff,Nat.reduceLT,Nat.reduceLeDiff,Nat.reduceAdd,Nat.reduceSub,Nat.reduceMul,Nat.reduceBEq,Nat.reduceBNe,Nat.reducePow,Int.reduceToNat,Int.reduceLE,Int.reduceLT,Int.reduceMul,Int.reduceEq,Int.reducePow,Int.reduceAdd,Int.reduceSub,Int.reduceNeg,reduceCtorEq,bI,Tryz.results104]) | (with_reducible first | refine aI ?_ | refine aP ?_ | refine aS ?_ | refine bi fun K hK => ?_ | refine aD ?_ | refine aQ ?_ | refine aL ?_) | (with_reducible refine hK _ ?_;clear hK K) | ((with_reducible refine ai ?_ ?_);(· decide)) | (with_reducible refine aK (hck) ?_))
 | true =>
 rw [hb,if_pos rfl,dh] at hck
 have hg := hgcd hb
 clear hgcd
 have hL : fO l = if l.t.length = 0 then (0,if l.c ≤ 0 then fT else fF) else if 0 < j7 (iM l).t then (0,.mk 2 (iM l) []) else if dc (1 - (iM l).c) then (0,.mk 4 ⟨0,[]⟩ [.mk 2 ⟨1 - (iM l).c,c4 (-1) (iM l).t⟩ []]) else (3,fT) := by unfold fO;rw [hb];rfl
 rw [hL]
 by_cases h0 : l.t.length = 0
 ·rw [if_pos h0]
  have h0' : ((l.t.length : Int) = 0) = True := eq_true (by omega)
  by_cases hc : l.c ≤ 0
  ·rw [if_pos hc,yT]
   have hc' : (l.c ≤ 0) = True := eq_true hc
   refine dQ (r := .tup [.agg [inA 0,inA 0,.sl [] 0 .full,.sl [] 0 .full],.c .nilIface]) ?_ 4 (by simp [wkD])
   clear hg hL
   refine bm [] Tryz.func104 rfl Tryz.ntmps104 (Nat.le_of_ble_eq_true rfl) (Nat.le_of_ble_eq_true rfl) fun w0 G0 B0 Pr hB0 => ?_
   simp only [bD,bj,List.cons_append,List.nil_append]
   repeat' (first | (with_reducible refine hY _ ?_;clear hY Y) | ((with_reducible first | refine aX rfl (aR fun K' hK' => aa ?_) | refine hK' _ (ab fun Y hY => aa ?_) | refine ab fun Y hY => aa ?_ | refine ag tk0 bI (ab fun Y hY => aa ?_) | refine aa ?_ | refine aH ?_);(try clear hK' K');(try dsimp only [aop]);try simp only [go_sem,↓reduceIte,Nat.reduceEqDiff,Nat.reduceLT,Nat.reduceLeDiff,Nat.reduceAdd,Nat.reduceSub,Nat.reduceMul,Nat.reduceBEq,Nat.reduceBNe,Nat.reducePow,Int.reduceToNat,Int.reduceLE,Int.reduceLT,Int.reduceMul,Int.reduceEq,Int.reducePow,Int.reduceAdd,Int.reduceSub,Int.reduceNeg,reduceCtorEq,bI,Tryz.results104,h0',hc']) | (with_reducible first | refine aI ?_ | refine aP ?_ | refine aS ?_ | refine bi fun K hK => ?_ | refine aD ?_ | refine aC ?_ | refine aQ ?_ | refine av ?_ | refine aL ?_) | (with_reducible refine hK _ ?_;clear hK K) | ((with_reducible refine ai ?_ ?_);(· decide)) | (with_reducible refine aK (hck) ?_) | (with_reducible refine ce (cu) ?_))
  ·rw [if_neg hc,yS]
   have hc' : (l.c ≤ 0) = False := eq_false hc
   refine dQ (r := .tup [.agg [inA 1,inA 0,.sl [] 0 .full,.sl [] 0 .full],.c .nilIface]) ?_ 4 (by simp [wkD])
   clear hg hL
   refine bm [] Tryz.func104 rfl Tryz.ntmps104 (Nat.le_of_ble_eq_true rfl) (Nat.le_of_ble_eq_true rfl) fun w0 G0 B0 Pr hB0 => ?_
   simp only [bD,bj,List.cons_append,List.nil_append]
   repeat' (first | (with_reducible refine hY _ ?_;clear hY Y) | ((with_reducible first | refine aX rfl (aR fun K' hK' => aa ?_) | refine hK' _ (ab fun Y hY => aa ?_) | refine ab fun Y hY => aa ?_ | refine ag tk0 bI (ab fun Y hY => aa ?_) | refine aa ?_ | refine aH ?_);(try clear hK' K');(try dsimp only [aop]);try simp only [go_sem,↓reduceIte,Nat.reduceEqDiff,Nat.reduceLT,Nat.reduceLeDiff,Nat.reduceAdd,Nat.reduceSub,Nat.reduceMul,Nat.reduceBEq,Nat.reduceBNe,Nat.reducePow,Int.reduceToNat,Int.reduceLE,Int.reduceLT,Int.reduceMul,Int.reduceEq,Int.reducePow,Int.reduceAdd,Int.reduceSub,Int.reduceNeg,reduceCtorEq,bI,Tryz.results104,h0',hc']) | (with_reducible first | refine aI ?_ | refine aP ?_ | refine aS ?_ | refine bi fun K hK => ?_ | refine aD ?_ | refine aC ?_ | refine aQ ?_ | refine av ?_ | refine aL ?_) | (with_reducible refine hK _ ?_;clear hK K) | ((with_reducible refine ai ?_ ?_);(· decide)) | (with_reducible refine aK (hck) ?_) | (with_reducible refine ce (cu) ?_))
 rw [if_neg h0]
 have h0' : ((l.t.length : Int) = 0) = False := eq_false (by omega)
 have hne : l.t ≠ [] := fun e => h0 (by rw [e];rfl)
 have hrl := uY hb hne
 obtain ⟨⟨c1,c2⟩,h64,hm⟩ := fi hb
 have hts : db (-1) l.t = true := by unfold dg at hb;simp only [Bool.and_eq_true] at hb;exact hb.2.2
 have hok := fI _ _ hts
 have hgp : 0 < eR 0 l.t := pd (List.getElem_mem (show 0 < l.t.length by omega)) (hok _ (List.getElem_mem _)).2.1
 have hgd := (j6 l.t 0).2
 have hgl : eR 0 l.t ≤ 1073741824 := by
  have h1 := hgd _ (List.getElem_mem (show 0 < l.t.length by omega))
  have h2 := hok _ (List.getElem_mem (show 0 < l.t.length by omega))
  have h3 := Nat.le_of_dvd (by omega) h1
  have := h2.1.2.2
  omega
 have hup := zk l.c (eR 0 l.t : Int) (by omega) (by omega)
 have hadd := tK (iM l) 1 1 (by decide) rfl hrl
 have hrt : (iM l).t = li (eR 0 l.t : Int) l.t := rfl
 have hrc : (iM l).c = upZ l.c (eR 0 l.t : Int) := rfl
 have hqb : ∀ k (h : k < l.t.length),IntKind.i64.wrap (l.t[k].2.tdiv (eR 0 l.t : Int)) = l.t[k].2.tdiv (eR 0 l.t : Int) := fun k h => by
  have h1 := t7 hgp (hgd _ (List.getElem_mem h)) (hok _ (List.getElem_mem h)).2.1
  have h2 := (hok _ (List.getElem_mem h)).1.2.2
  exact bQ (by omega) (by omega)
 have hgz : ((eR 0 l.t : Int) = 0) = False := eq_false (by omega)
 unfold lnA at hadd
 generalize iM l = R at *
 obtain ⟨rc,rt⟩ := R
 simp only at hrt hrc
 generalize eR 0 l.t = g at *
 rw [← hrc] at hup
 obtain ⟨c,t⟩ := l
 simp only at *
 clear hL hb hok hts hgd hm hgp hrl
 refine dQ (r := if 0 < j7 rt then .tup [.agg [inA 2,inA rc,.sl (bn rt) t.length .none,.sl [] 0 .full],.c .nilIface]
  else if dc (1 - rc) then .tup [.agg [inA 4,inA 0,.sl [] 0 .full,.sl [inA 2,inA (1 - rc),.sl (bn (c4 (-1) rt)) (c4 (-1) rt).length .none,.sl [] 0 .full] 1 .full],.c .nilIface]
  else .tup [.agg [inA 0,inA 0,.sl [] 0 .full,.sl [] 0 .full],.ifc 50 (.c (.int .i64 3))]) ?_ 6 (by
  have hrl : rt.length = t.length := by rw [hrt,iR]
  unfold gu
  repeat' split
  all_goals simp [wkD,foA,cU,bn,iP,hrl,dh,lP,fT])
 refine bm [] Tryz.func104 rfl Tryz.ntmps104 (Nat.le_of_ble_eq_true rfl) (Nat.le_of_ble_eq_true rfl) fun w0 G0 B0 Pr hB0 => ?_
 simp only [bD,bj,List.cons_append,List.nil_append]
 repeat' (first | (with_reducible refine hY _ ?_;clear hY Y) | ((with_reducible first | refine aX rfl (aR fun K' hK' => aa ?_) | refine hK' _ (ab fun Y hY => aa ?_) | refine ab fun Y hY => aa ?_ | refine ag tk0 bI (ab fun Y hY => aa ?_) | refine aa ?_);(try clear hK' K');(try dsimp only [aop]);try simp only [go_sem,↓reduceIte,Nat.reduceEqDiff,Nat.reduceLT,Nat.reduceLeDiff,Nat.reduceAdd,Nat.reduceSub,Nat.reduceMul,Nat.reduceBEq,Nat.reduceBNe,Nat.reducePow,Int.reduceToNat,Int.reduceLE,Int.reduceLT,Int.reduceMul,Int.reduceEq,Int.reducePow,Int.reduceAdd,Int.reduceSub,Int.reduceNeg,reduceCtorEq,bI,Tryz.results104,h0']) | (with_reducible first | refine aI ?_ | refine aP ?_ | refine aS ?_ | refine bi fun K hK => ?_ | refine aC ?_ | refine ah ?_ | refine av ?_ | refine au ?_) | (with_reducible refine hK _ ?_;clear hK K) | ((with_reducible refine ai ?_ ?_);(· decide)) | (with_reducible refine aK (hck) ?_) | (with_reducible refine ce (cu) ?_) | (with_reducible refine aK (hg) ?_) | (with_reducible refine aK (hup) ?_))
 refine d5 (dk (b := 10050) (k0 := 10006) (i := 1) 94 (by decide) (by decide) (by decide) rfl rfl rfl) ?_
 refine b7 (α := Nat) (fun k => [(2,.loc 10002 0),(5,inA (g : Int)),(6,.loc 10006 0),(34,.sl (bn t) t.length .none),(35,inA (t.length : Int)),(36,inA (k : Int)),(10002,.bc [inA 0,inA 0,.sl [] 0 .full,.sl [] 0 .full] 27),(10006,.bc [inA rc,.sl (bn (li (g : Int) (t.take k))) k (.tok 10050)] 24),(10050,.bt k 94)])
  (fun k => k ≤ t.length) (fun k => t.length - k) 0 [2,5,6,34,35,36] ?_ (Nat.zero_le _) ?_
 ·simp only [go_sem,↓reduceIte,Nat.reduceEqDiff,Nat.reduceLT,Nat.reduceLeDiff,Nat.reduceAdd,Nat.reduceSub,Nat.reduceMul,Nat.reduceBEq,Nat.reduceBNe,Nat.reducePow,Int.reduceToNat,Int.reduceLE,Int.reduceLT,Int.reduceMul,Int.reduceEq,Int.reducePow,Int.reduceAdd,Int.reduceSub,Int.reduceNeg,reduceCtorEq] <;> rfl
 intro k hk ih
 by_cases hlt : k < t.length
 ·have hlt' : ((k : Int) < (t.length : Int)) = True := eq_true (by omega)
  have hkw := cC (n := k) (by omega)
  have hg0 := eM hlt
  have hfl := cM t
  have hcl : (bn (li (g : Int) (t.take k))).length = k * 2 := by rw [cM,iR,List.length_take];omega
  have hq := hqb k hlt
  have ih' := ih (k + 1) (by omega) (by omega)
  rw [sM (g : Int) hlt,ig] at ih'
  clear ih hg hck hup hadd hrt hrc hqb
  generalize t[k] = m at *
  obtain ⟨v,x⟩ := m
  simp only at hg0 ih' hq
  generalize li (g : Int) (t.take k) = T at *
  repeat' (first | (with_reducible refine hY _ ?_;clear hY Y) | ((with_reducible first | refine aX rfl (aR fun K' hK' => aa ?_) | refine hK' _ (ab fun Y hY => aa ?_) | refine ab fun Y hY => aa ?_ | refine ag tk0 bI (ab fun Y hY => aa ?_) | refine aN rfl (ap fun K' hK' => aa ?_) | refine hK' _ _ (ab fun Y hY => aa ?_));(try clear hK' K');(try dsimp only [aop]);try simp only [go_sem,↓reduceIte,Nat.reduceEqDiff,Nat.reduceLT,Nat.reduceLeDiff,Nat.reduceAdd,Nat.reduceSub,Nat.reduceMul,Nat.reduceBEq,Nat.reduceBNe,Nat.reducePow,Int.reduceToNat,Int.reduceLE,Int.reduceLT,Int.reduceMul,Int.reduceEq,Int.reducePow,Int.reduceAdd,Int.reduceSub,Int.reduceNeg,reduceCtorEq,bI,Tryz.results104,hlt',hfl,hg0,hkw,hq,hgz,hcl]) | (with_reducible first | refine aI ?_ | refine aP ?_ | refine aS ?_ | refine bi fun K hK => ?_ | refine aD ?_ | refine ay ?_ | refine ah ?_ | refine av ?_ | refine aj ?_ | refine bh fun K hK => ?_) | (with_reducible refine hK _ ?_;clear hK K) | (with_reducible refine hK _ _ ?_ ?_;(· kernel_rfl);clear hK K) | ((with_reducible refine ai ?_ ?_);(· decide)) | (with_reducible refine aq tk0 bI ?_ ?_;(· kernel_rfl)) | (with_reducible refine aV ?_ ?_;(· (try and_intros) <;> first | omega | assumption | (simp only [List.length_append,List.length_map,List.length_cons,List.length_nil] <;> omega))))
  refine bO [2,5,6,34,35,36] (by simp only [go_sem,↓reduceIte,Nat.reduceEqDiff,Nat.reduceLT,Nat.reduceLeDiff,Nat.reduceAdd,Nat.reduceSub,Nat.reduceMul,Nat.reduceBEq,Nat.reduceBNe,Nat.reducePow,Int.reduceToNat,Int.reduceLE,Int.reduceLT,Int.reduceMul,Int.reduceEq,Int.reducePow,Int.reduceAdd,Int.reduceSub,Int.reduceNeg,reduceCtorEq];exact rfl) ?_
  refine gF ih' ?_
  simp [bn]
 ·have hlt' : ((k : Int) < (t.length : Int)) = False := eq_false (by omega)
  obtain rfl : k = t.length := by omega
  rw [List.take_of_length_le (by omega),← hrt]
  have hrl : rt.length = t.length := by rw [hrt,iR]
  have hpos : 0 < rt.length := by omega
  have hg1 := rG hpos
  have hpl : ((0 : Int) < (t.length : Int)) = True := eq_true (by omega)
  have hfl := cM rt
  have hh : j7 rt = rt[0].2 := by unfold j7;rw [List.getD_eq_getElem?_getD,List.getElem?_eq_getElem hpos];rfl
  rw [hrl] at hfl hadd
  clear ih hg hck hup hqb hrt
  by_cases hp : 0 < j7 rt
  ·rw [if_pos hp]
   rw [hh] at hp
   have hp' : (0 < rt[0].2) = True := eq_true hp
   clear hadd hh
   generalize rt[0].2 = x at *
   repeat' (first | (with_reducible refine hY _ ?_;clear hY Y) | ((with_reducible first | refine aX rfl (aR fun K' hK' => aa ?_) | refine hK' _ (ab fun Y hY => aa ?_) | refine ab fun Y hY => aa ?_ | refine ag tk0 bI (ab fun Y hY => aa ?_) | refine aa ?_ | refine aH ?_);(try clear hK' K');(try dsimp only [aop]);try simp only [go_sem,↓reduceIte,Nat.reduceEqDiff,Nat.reduceLT,Nat.reduceLeDiff,Nat.reduceAdd,Nat.reduceSub,Nat.reduceMul,Nat.reduceBEq,Nat.reduceBNe,Nat.reducePow,Int.reduceToNat,Int.reduceLE,Int.reduceLT,Int.reduceMul,Int.reduceEq,Int.reducePow,Int.reduceAdd,Int.reduceSub,Int.reduceNeg,reduceCtorEq,bI,Tryz.results104,hlt',hg1,hpl,hfl,hp']) | (with_reducible first | refine aI ?_ | refine aP ?_ | refine aS ?_ | refine bi fun K hK => ?_ | refine aC ?_ | refine aO ?_ | refine aQ ?_ | refine ax ?_ | refine aL ?_ | refine ar ?_) | (with_reducible refine hK _ ?_;clear hK K) | ((with_reducible refine ai ?_ ?_);(· decide)) | ((with_reducible refine aB (fun hc => ?_) (fun hc => ?_)) <;> (try simp only [decide_eq_true_eq,decide_eq_false_iff_not,Bool.not_true,Bool.not_false,Bool.not_eq_true',Bool.not_eq_false'] at hc) <;> (try (exfalso;omega))) | (with_reducible refine aV ?_ ?_;(· (try and_intros) <;> first | omega | assumption | (simp only [List.length_append,List.length_map,List.length_cons,List.length_nil] <;> omega))))
  ·rw [if_neg hp]
   rw [hh] at hp
   have hp' : (0 < rt[0].2) = False := eq_false hp
   clear hh
   generalize rt[0].2 = x at *
   cases hcc : dc (1 - rc) with
   | true =>
    rw [if_pos rfl]
    have ha := hadd (0,⟨1 - rc,c4 (-1) rt⟩) (by rw [if_pos hcc])
    rw [iC] at ha
    clear hadd hcc
    repeat' (first | (with_reducible refine hY _ ?_;clear hY Y) | ((with_reducible first | refine aX rfl (aR fun K' hK' => aa ?_) | refine hK' _ (ab fun Y hY => aa ?_) | refine ab fun Y hY => aa ?_ | refine ag tk0 bI (ab fun Y hY => aa ?_) | refine aa ?_ | refine aH ?_);(try clear hK' K');(try dsimp only [aop]);try simp only [go_sem,↓reduceIte,Nat.reduceEqDiff,Nat.reduceLT,Nat.reduceLeDiff,Nat.reduceAdd,Nat.reduceSub,Nat.reduceMul,Nat.reduceBEq,Nat.reduceBNe,Nat.reducePow,Int.reduceToNat,Int.reduceLE,Int.reduceLT,Int.reduceMul,Int.reduceEq,Int.reducePow,Int.reduceAdd,Int.reduceSub,Int.reduceNeg,reduceCtorEq,bI,Tryz.results104,hlt',hg1,hpl,hfl,hp']) | (with_reducible first | refine aI ?_ | refine aP ?_ | refine aS ?_ | refine bi fun K hK => ?_ | refine aC ?_ | refine aO ?_ | refine ax ?_ | refine av ?_ | refine aL ?_ | refine ar ?_) | (with_reducible refine hK _ ?_;clear hK K) | ((with_reducible refine ai ?_ ?_);(· decide)) | ((with_reducible refine aB (fun hc => ?_) (fun hc => ?_)) <;> (try simp only [decide_eq_true_eq,decide_eq_false_iff_not,Bool.not_true,Bool.not_false,Bool.not_eq_true',Bool.not_eq_false'] at hc) <;> (try (exfalso;omega))) | (with_reducible refine aV ?_ ?_;(· (try and_intros) <;> first | omega | assumption | (simp only [List.length_append,List.length_map,List.length_cons,List.length_nil] <;> omega))) | (with_reducible refine aK (dd ha ?_) ?_;(· simp [c6])) | (with_reducible refine ce (cu) ?_))
   | false =>
    rw [if_neg (by decide)]
    have ha := hadd (3,⟨0,[]⟩) (by rw [hcc];rfl)
    rw [jO] at ha
    clear hadd hcc
    repeat' (first | (with_reducible refine hY _ ?_;clear hY Y) | ((with_reducible first | refine aX rfl (aR fun K' hK' => aa ?_) | refine hK' _ (ab fun Y hY => aa ?_) | refine ab fun Y hY => aa ?_ | refine ag tk0 bI (ab fun Y hY => aa ?_) | refine aa ?_ | refine aH ?_);(try clear hK' K');(try dsimp only [aop]);try simp only [go_sem,↓reduceIte,Nat.reduceEqDiff,Nat.reduceLT,Nat.reduceLeDiff,Nat.reduceAdd,Nat.reduceSub,Nat.reduceMul,Nat.reduceBEq,Nat.reduceBNe,Nat.reducePow,Int.reduceToNat,Int.reduceLE,Int.reduceLT,Int.reduceMul,Int.reduceEq,Int.reducePow,Int.reduceAdd,Int.reduceSub,Int.reduceNeg,reduceCtorEq,bI,Tryz.results104,hlt',hg1,hpl,hfl,hp']) | (with_reducible first | refine aI ?_ | refine aP ?_ | refine aS ?_ | refine bi fun K hK => ?_ | refine aD ?_ | refine aC ?_ | refine aO ?_ | refine aQ ?_ | refine ax ?_ | refine av ?_ | refine aL ?_ | refine ar ?_) | (with_reducible refine hK _ ?_;clear hK K) | ((with_reducible refine ai ?_ ?_);(· decide)) | ((with_reducible refine aB (fun hc => ?_) (fun hc => ?_)) <;> (try simp only [decide_eq_true_eq,decide_eq_false_iff_not,Bool.not_true,Bool.not_false,Bool.not_eq_true',Bool.not_eq_false'] at hc) <;> (try (exfalso;omega))) | (with_reducible refine aV ?_ ?_;(· (try and_intros) <;> first | omega | assumption | (simp only [List.length_append,List.length_map,List.length_cons,List.length_nil] <;> omega))) | (with_reducible refine aK (dd ha ?_) ?_;(· simp [c6])))
end Go.Proofs.YtmpdocplcgbpkaaGreatDoor
namespace Go.Proofs.YtmpdocplcgbpkaaGreatDoor
set_option linter.unusedSimpArgs false
set_option linter.unusedVariables false
open Go.RowKit
mutual
theorem yn : ∀ (f : Fo) (k : Nat),(foA f).map (wkD k) = foA f
 | .mk k l ks,0 => by rw [List.map_congr_left (g := id) fun x _ => by unfold wkD;rfl,List.map_id]
 | .mk k l ks,j + 1 => by
  have h := j3 ks j
  simp only [foA,List.map_cons,List.map_nil,wkD,iP,h]
theorem j3 : ∀ (l : List Fo) (k : Nat),(cU l).map (wkD k) = cU l
 | [],k => rfl
 | f :: r,k => by rw [cU,List.map_append,yn f k,j3 r k]
end
theorem iz (l : Ln) : fO l = (5,fT) ∨ fO l = (3,fT) ∨ ((fO l).1 = 0 ∧ dg l = true ∧ zj (fO l).2) := by
 unfold fO
 cases hb : dg l with
 | false => exact .inl rfl
 | true =>
  simp only [Bool.not_true,Bool.false_eq_true,if_false]
  split
  ·refine .inr (.inr ⟨rfl,trivial,?_⟩)
   simp only
   split
   ·exact fun h => by cases h
   ·exact fun h => by cases h
  ·split
   ·exact .inr (.inr ⟨rfl,trivial,fun h => by cases h⟩)
   ·split
    ·exact .inr (.inr ⟨rfl,trivial,fun _ => List.cons_ne_nil _ _⟩)
    ·exact .inr (.inl rfl)
theorem wX {l : Ln} (hl : dg l = true) : (if dc (0 - l.c) then (0,(⟨0 - l.c,c4 (-1) l.t⟩ : Ln)) else (3,⟨0,[]⟩)) = ((0,kJ l) : Nat × Ln) := by
 obtain ⟨⟨c1,c2⟩,_,_⟩ := fi hl
 rw [if_pos (coefB_iff.2 (by omega))]
 unfold kJ
 simp
abbrev frm (k c : Int) (t : List Tm) (ks : List Fo) : List AV := [inA k,inA c,.sl (bn t) t.length .none,.sl (cU ks) ks.length .none]
theorem cZ (k c : Int) (t : List Tm) (ks : List Fo) : foA (.mk k ⟨c,t⟩ ks) = frm k c t ks := rfl
theorem gL (k c : Int) (t : List Tm) (ks : List Fo) : gu (0,.mk k ⟨c,t⟩ ks) = .tup [.agg (frm k c t ks),.c .nilIface] := rfl
abbrev zF (e : AV) : AV := .tup [.agg [inA 0,inA 0,.sl [] 0 .full,.sl [] 0 .full],e]
theorem zJ : wkD 4 (zF (cK 5)) = gu (5,fT) := by simp [wkD,iB,dF]
theorem zI : wkD 4 (zF (cK 3)) = gu (3,fT) := by simp [wkD,jb,lP]
def bN : Nat → List Nat
 | 0 => [0,1]
 | 1 => [1,2,4]
 | 2 => [1,2,4,6,7]
 | 3 => [4,7]
 | 4 => [1,2,4,6]
 | 5 => [1,4,6]
 | 6 => [4,6]
 | 7 => [4,6]
 | 8 => [1,2,4,6]
 | 9 => [1,4,6,7,8]
 | 10 => [4,7]
 | 11 => [1,4,6,8]
 | 12 => [1,4,6,7,9]
 | 13 => [4,7]
 | 14 => [1,4,6,9]
 | 15 => [4,6,9]
 | 16 => [4,6,9]
 | _ => []
set_option maxRecDepth 100000 in
set_option maxHeartbeats 16000000 in
theorem wM (HG : ∀ l,dg l = true → AFn Tryz.prog 118 [.agg (lnA l)] [] (inA (eR 0 l.t : Int)) []) (k : Int) (l : Ln) (ks : List Fo) (no : Bool) (hk : k = 2 ∨ k = 3) :
  AFn Tryz.prog 69 [.agg (foA (.mk k l ks)),.c (.bool no)] [] (gu (i3 k l no)) [] := by
 have h1 := lY l (HG l)
 unfold i3
 rcases iz l with e | e | ⟨e1,hlin,hks⟩
 ·rw [e] at h1 ⊢
  rw [if_pos (by decide)]
  refine dQ (r := zF (cK 5)) ?_ 4 zJ
  rw [iB] at h1
  rw [dF]
  clear e HG
  obtain ⟨c,t⟩ := l
  rw [cZ]
  refine bm [] Tryz.func69 rfl Tryz.ntmps69 (Nat.le_of_ble_eq_true rfl) (Nat.le_of_ble_eq_true rfl) fun w0 G0 B0 Pr hB0 => ?_
  simp only [bD,bj,List.cons_append,List.nil_append]
  repeat' (first | (with_reducible refine hY _ ?_;clear hY Y) | ((with_reducible first | refine aX rfl (aR fun K' hK' => aa ?_) | refine hK' _ (ab fun Y hY => aa ?_) | refine ab fun Y hY => aa ?_ | refine ag tk0 bN (ab fun Y hY => aa ?_) | refine aa ?_ | refine aH ?_);(try clear hK' K');(try dsimp only [aop]);try simp only [go_sem,↓reduceIte,Nat.reduceEqDiff,Nat.reduceLT,Nat.reduceLeDiff,Nat.reduceAdd,Nat.reduceSub,Nat.reduceMul,Nat.reduceBEq,Nat.reduceBNe,Nat.reducePow,Int.reduceToNat,Int.reduceLE,Int.reduceLT,Int.reduceMul,Int.reduceEq,Int.reducePow,Int.reduceAdd,Int.reduceSub,Int.reduceNeg,reduceCtorEq,bN,Tryz.results69]) | (with_reducible first | refine aI ?_ | refine aP ?_ | refine aS ?_ | refine bi fun K hK => ?_ | refine aD ?_ | refine aQ ?_ | refine aL ?_) | (with_reducible refine hK _ ?_;clear hK K) | ((with_reducible refine ai ?_ ?_);(· decide)) | (with_reducible refine aK (h1) ?_))
 ·rw [e] at h1 ⊢
  rw [if_pos (by decide)]
  refine dQ (r := zF (cK 3)) ?_ 4 zI
  rw [jb] at h1
  rw [lP]
  clear e HG
  obtain ⟨c,t⟩ := l
  rw [cZ]
  refine bm [] Tryz.func69 rfl Tryz.ntmps69 (Nat.le_of_ble_eq_true rfl) (Nat.le_of_ble_eq_true rfl) fun w0 G0 B0 Pr hB0 => ?_
  simp only [bD,bj,List.cons_append,List.nil_append]
  repeat' (first | (with_reducible refine hY _ ?_;clear hY Y) | ((with_reducible first | refine aX rfl (aR fun K' hK' => aa ?_) | refine hK' _ (ab fun Y hY => aa ?_) | refine ab fun Y hY => aa ?_ | refine ag tk0 bN (ab fun Y hY => aa ?_) | refine aa ?_ | refine aH ?_);(try clear hK' K');(try dsimp only [aop]);try simp only [go_sem,↓reduceIte,Nat.reduceEqDiff,Nat.reduceLT,Nat.reduceLeDiff,Nat.reduceAdd,Nat.reduceSub,Nat.reduceMul,Nat.reduceBEq,Nat.reduceBNe,Nat.reducePow,Int.reduceToNat,Int.reduceLE,Int.reduceLT,Int.reduceMul,Int.reduceEq,Int.reducePow,Int.reduceAdd,Int.reduceSub,Int.reduceNeg,reduceCtorEq,bN,Tryz.results69]) | (with_reducible first | refine aI ?_ | refine aP ?_ | refine aS ?_ | refine bi fun K hK => ?_ | refine aD ?_ | refine aQ ?_ | refine aL ?_) | (with_reducible refine hK _ ?_;clear hK K) | ((with_reducible refine ai ?_ ?_);(· decide)) | (with_reducible refine aK (h1) ?_))
 have hop := uS (fO l).2 hks
 rw [if_neg (by rw [e1];simp)]
 have hadd := tK l 0 0 (by decide) rfl hlin (0,kJ l) (wX hlin).symm
 rw [iC] at hadd
 have h2 := lY (kJ l) (HG _)
 have hc2 := iz (kJ l)
 generalize fO (kJ l) = q2 at *
 generalize fO l = q1 at *
 obtain ⟨x1,a⟩ := q1
 simp only at e1 hks hop ⊢
 subst e1
 obtain ⟨ak,⟨ac,at0⟩,aks⟩ := a
 rw [gL] at h1
 rw [cZ] at hop
 obtain ⟨c,t⟩ := l
 generalize mc (.mk ak ⟨ac,at0⟩ aks) = oa at *
 rcases hk with rfl | rfl
 ·rw [if_pos rfl]
  clear h2 hc2 hadd HG
  cases no with
  | false =>
   simp only [Bool.false_eq_true,if_false]
   rw [gL,cZ]
   refine bm [] Tryz.func69 rfl Tryz.ntmps69 (Nat.le_of_ble_eq_true rfl) (Nat.le_of_ble_eq_true rfl) fun w0 G0 B0 Pr hB0 => ?_
   simp only [bD,bj,List.cons_append,List.nil_append]
   repeat' (first | (with_reducible refine hY _ ?_;clear hY Y) | ((with_reducible first | refine aX rfl (aR fun K' hK' => aa ?_) | refine hK' _ (ab fun Y hY => aa ?_) | refine ab fun Y hY => aa ?_ | refine ag tk0 bN (ab fun Y hY => aa ?_) | refine aa ?_ | refine aH ?_);(try clear hK' K');(try dsimp only [aop]);try simp only [go_sem,↓reduceIte,Nat.reduceEqDiff,Nat.reduceLT,Nat.reduceLeDiff,Nat.reduceAdd,Nat.reduceSub,Nat.reduceMul,Nat.reduceBEq,Nat.reduceBNe,Nat.reducePow,Int.reduceToNat,Int.reduceLE,Int.reduceLT,Int.reduceMul,Int.reduceEq,Int.reducePow,Int.reduceAdd,Int.reduceSub,Int.reduceNeg,reduceCtorEq,bN,Tryz.results69]) | (with_reducible first | refine aI ?_ | refine aP ?_ | refine aS ?_ | refine bi fun K hK => ?_ | refine aD ?_ | refine aC ?_ | refine aQ ?_ | refine av ?_ | refine aL ?_) | (with_reducible refine hK _ ?_;clear hK K) | ((with_reducible refine ai ?_ ?_);(· decide)) | (with_reducible refine aK (h1) ?_) | (with_reducible refine ce (cu) ?_))
  | true =>
   simp only [if_true]
   obtain ⟨ok,⟨oc,ot⟩,oks⟩ := oa
   rw [cZ] at hop
   rw [gL,cZ]
   refine bm [] Tryz.func69 rfl Tryz.ntmps69 (Nat.le_of_ble_eq_true rfl) (Nat.le_of_ble_eq_true rfl) fun w0 G0 B0 Pr hB0 => ?_
   simp only [bD,bj,List.cons_append,List.nil_append]
   repeat' (first | (with_reducible refine hY _ ?_;clear hY Y) | ((with_reducible first | refine aX rfl (aR fun K' hK' => aa ?_) | refine hK' _ (ab fun Y hY => aa ?_) | refine ab fun Y hY => aa ?_ | refine ag tk0 bN (ab fun Y hY => aa ?_) | refine aa ?_ | refine aH ?_);(try clear hK' K');(try dsimp only [aop]);try simp only [go_sem,↓reduceIte,Nat.reduceEqDiff,Nat.reduceLT,Nat.reduceLeDiff,Nat.reduceAdd,Nat.reduceSub,Nat.reduceMul,Nat.reduceBEq,Nat.reduceBNe,Nat.reducePow,Int.reduceToNat,Int.reduceLE,Int.reduceLT,Int.reduceMul,Int.reduceEq,Int.reducePow,Int.reduceAdd,Int.reduceSub,Int.reduceNeg,reduceCtorEq,bN,Tryz.results69]) | (with_reducible first | refine aI ?_ | refine aP ?_ | refine aS ?_ | refine bi fun K hK => ?_ | refine aD ?_ | refine aC ?_ | refine aQ ?_ | refine av ?_ | refine aL ?_) | (with_reducible refine hK _ ?_;clear hK K) | ((with_reducible refine ai ?_ ?_);(· decide)) | (with_reducible refine aK (h1) ?_) | (with_reducible refine ce (cu) ?_) | (with_reducible refine aK (hop) ?_))
 rw [if_neg (by decide)]
 rcases hc2 with e | e | ⟨e2,_,hks2⟩
 ·rw [e] at h2 ⊢
  rw [if_pos (by decide)]
  refine dQ (r := zF (cK 5)) ?_ 4 zJ
  rw [iB] at h2
  rw [dF]
  clear e HG hop
  rw [cZ]
  refine bm [] Tryz.func69 rfl Tryz.ntmps69 (Nat.le_of_ble_eq_true rfl) (Nat.le_of_ble_eq_true rfl) fun w0 G0 B0 Pr hB0 => ?_
  simp only [bD,bj,List.cons_append,List.nil_append]
  repeat' (first | (with_reducible refine hY _ ?_;clear hY Y) | ((with_reducible first | refine aX rfl (aR fun K' hK' => aa ?_) | refine hK' _ (ab fun Y hY => aa ?_) | refine ab fun Y hY => aa ?_ | refine ag tk0 bN (ab fun Y hY => aa ?_) | refine aa ?_ | refine aH ?_);(try clear hK' K');(try dsimp only [aop]);try simp only [go_sem,↓reduceIte,Nat.reduceEqDiff,Nat.reduceLT,Nat.reduceLeDiff,Nat.reduceAdd,Nat.reduceSub,Nat.reduceMul,Nat.reduceBEq,Nat.reduceBNe,Nat.reducePow,Int.reduceToNat,Int.reduceLE,Int.reduceLT,Int.reduceMul,Int.reduceEq,Int.reducePow,Int.reduceAdd,Int.reduceSub,Int.reduceNeg,reduceCtorEq,bN,Tryz.results69]) | (with_reducible first | refine aI ?_ | refine aP ?_ | refine aS ?_ | refine bi fun K hK => ?_ | refine aD ?_ | refine aC ?_ | refine aQ ?_ | refine av ?_ | refine aL ?_) | (with_reducible refine hK _ ?_;clear hK K) | ((with_reducible refine ai ?_ ?_);(· decide)) | (with_reducible refine aK (h1) ?_) | (with_reducible refine ce (cu) ?_) | (with_reducible refine aK (hadd) ?_) | (with_reducible refine aK (h2) ?_))
 ·rw [e] at h2 ⊢
  rw [if_pos (by decide)]
  refine dQ (r := zF (cK 3)) ?_ 4 zI
  rw [jb] at h2
  rw [lP]
  clear e HG hop
  rw [cZ]
  refine bm [] Tryz.func69 rfl Tryz.ntmps69 (Nat.le_of_ble_eq_true rfl) (Nat.le_of_ble_eq_true rfl) fun w0 G0 B0 Pr hB0 => ?_
  simp only [bD,bj,List.cons_append,List.nil_append]
  repeat' (first | (with_reducible refine hY _ ?_;clear hY Y) | ((with_reducible first | refine aX rfl (aR fun K' hK' => aa ?_) | refine hK' _ (ab fun Y hY => aa ?_) | refine ab fun Y hY => aa ?_ | refine ag tk0 bN (ab fun Y hY => aa ?_) | refine aa ?_ | refine aH ?_);(try clear hK' K');(try dsimp only [aop]);try simp only [go_sem,↓reduceIte,Nat.reduceEqDiff,Nat.reduceLT,Nat.reduceLeDiff,Nat.reduceAdd,Nat.reduceSub,Nat.reduceMul,Nat.reduceBEq,Nat.reduceBNe,Nat.reducePow,Int.reduceToNat,Int.reduceLE,Int.reduceLT,Int.reduceMul,Int.reduceEq,Int.reducePow,Int.reduceAdd,Int.reduceSub,Int.reduceNeg,reduceCtorEq,bN,Tryz.results69]) | (with_reducible first | refine aI ?_ | refine aP ?_ | refine aS ?_ | refine bi fun K hK => ?_ | refine aD ?_ | refine aC ?_ | refine aQ ?_ | refine av ?_ | refine aL ?_) | (with_reducible refine hK _ ?_;clear hK K) | ((with_reducible refine ai ?_ ?_);(· decide)) | (with_reducible refine aK (h1) ?_) | (with_reducible refine ce (cu) ?_) | (with_reducible refine aK (hadd) ?_) | (with_reducible refine aK (h2) ?_))
 have hop2 := uS q2.2 hks2
 rw [if_neg (by rw [e2];simp)]
 obtain ⟨x2,b⟩ := q2
 simp only at e2 hks2 hop2 ⊢
 subst e2
 obtain ⟨bk,⟨bc,bt⟩,bks⟩ := b
 rw [gL] at h2
 rw [cZ] at hop2
 generalize mc (.mk bk ⟨bc,bt⟩ bks) = ob at *
 clear HG hks hks2
 cases no with
 | false =>
  simp only [Bool.false_eq_true,if_false]
  clear hop hop2
  refine dQ (r := .tup [.agg [inA 5,inA 0,.sl [] 0 .full,.sl [inA ak,inA ac,.sl (bn at0) at0.length .none,.sl (cU aks) aks.length .none,inA bk,inA bc,.sl (bn bt) bt.length .none,.sl (cU bks) bks.length .none] 2 .full],.c .nilIface]) ?_ 6 (by
   simp [wkD,gu,foA,cU,bn,iP,j3,dh])
  rw [cZ]
  refine bm [] Tryz.func69 rfl Tryz.ntmps69 (Nat.le_of_ble_eq_true rfl) (Nat.le_of_ble_eq_true rfl) fun w0 G0 B0 Pr hB0 => ?_
  simp only [bD,bj,List.cons_append,List.nil_append]
  repeat' (first | (with_reducible refine hY _ ?_;clear hY Y) | ((with_reducible first | refine aX rfl (aR fun K' hK' => aa ?_) | refine hK' _ (ab fun Y hY => aa ?_) | refine ab fun Y hY => aa ?_ | refine ag tk0 bN (ab fun Y hY => aa ?_) | refine aa ?_ | refine aH ?_);(try clear hK' K');(try dsimp only [aop]);try simp only [go_sem,↓reduceIte,Nat.reduceEqDiff,Nat.reduceLT,Nat.reduceLeDiff,Nat.reduceAdd,Nat.reduceSub,Nat.reduceMul,Nat.reduceBEq,Nat.reduceBNe,Nat.reducePow,Int.reduceToNat,Int.reduceLE,Int.reduceLT,Int.reduceMul,Int.reduceEq,Int.reducePow,Int.reduceAdd,Int.reduceSub,Int.reduceNeg,reduceCtorEq,bN,Tryz.results69]) | (with_reducible first | refine aI ?_ | refine aP ?_ | refine aS ?_ | refine bi fun K hK => ?_ | refine aC ?_ | refine av ?_ | refine aL ?_) | (with_reducible refine hK _ ?_;clear hK K) | ((with_reducible refine ai ?_ ?_);(· decide)) | (with_reducible refine aK (h1) ?_) | (with_reducible refine ce (cu) ?_) | (with_reducible refine aK (hadd) ?_) | (with_reducible refine aK (h2) ?_))
 | true =>
  simp only [if_true]
  obtain ⟨ok,⟨oc,ot⟩,oks⟩ := oa
  obtain ⟨pk,⟨pc,pt⟩,pks⟩ := ob
  rw [cZ] at hop hop2
  refine dQ (r := .tup [.agg [inA 6,inA 0,.sl [] 0 .full,.sl [inA ok,inA oc,.sl (bn ot) ot.length .none,.sl (cU oks) oks.length .none,inA pk,inA pc,.sl (bn pt) pt.length .none,.sl (cU pks) pks.length .none] 2 .full],.c .nilIface]) ?_ 6 (by
   simp [wkD,gu,foA,cU,bn,iP,j3,dh])
  rw [cZ]
  refine bm [] Tryz.func69 rfl Tryz.ntmps69 (Nat.le_of_ble_eq_true rfl) (Nat.le_of_ble_eq_true rfl) fun w0 G0 B0 Pr hB0 => ?_
  simp only [bD,bj,List.cons_append,List.nil_append]
  repeat' (first | (with_reducible refine hY _ ?_;clear hY Y) | ((with_reducible first | refine aX rfl (aR fun K' hK' => aa ?_) | refine hK' _ (ab fun Y hY => aa ?_) | refine ab fun Y hY => aa ?_ | refine ag tk0 bN (ab fun Y hY => aa ?_) | refine aa ?_ | refine aH ?_ | refine aN rfl (ap fun K' hK' => aa ?_) | refine hK' _ _ (ab fun Y hY => aa ?_));(try clear hK' K');(try dsimp only [aop]);try simp only [go_sem,↓reduceIte,Nat.reduceEqDiff,Nat.reduceLT,Nat.reduceLeDiff,Nat.reduceAdd,Nat.reduceSub,Nat.reduceMul,Nat.reduceBEq,Nat.reduceBNe,Nat.reducePow,Int.reduceToNat,Int.reduceLE,Int.reduceLT,Int.reduceMul,Int.reduceEq,Int.reducePow,Int.reduceAdd,Int.reduceSub,Int.reduceNeg,reduceCtorEq,bN,Tryz.results69]) | (with_reducible first | refine aI ?_ | refine aP ?_ | refine aS ?_ | refine bi fun K hK => ?_ | refine aD ?_ | refine aC ?_ | refine aQ ?_ | refine av ?_ | refine aL ?_ | refine aj ?_ | refine bh fun K hK => ?_) | (with_reducible refine hK _ ?_;clear hK K) | (with_reducible refine hK _ _ ?_ ?_;(· kernel_rfl);clear hK K) | ((with_reducible refine ai ?_ ?_);(· decide)) | (with_reducible refine aq tk0 bN ?_ ?_;(· kernel_rfl)) | (with_reducible refine aK (h1) ?_) | (with_reducible refine ce (cu) ?_) | (with_reducible refine aK (hadd) ?_) | (with_reducible refine aK (h2) ?_) | (with_reducible refine aK (hop) ?_) | (with_reducible refine aK (hop2) ?_))
end Go.Proofs.YtmpdocplcgbpkaaGreatDoor
