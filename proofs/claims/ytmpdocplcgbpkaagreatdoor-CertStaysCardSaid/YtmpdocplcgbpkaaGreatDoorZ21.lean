/- norm.Is in K: is a formula normalized? What is normalized is small, its opposites have a kid: plain. prop.Check of whatever clauses in K. -/
import Derived.Test.YtmpdocplcgbpkaaGreatDoorZ20
import Derived.Test.YtmpdocplcgbpkaaGreatDoorZ7
import Derived.Test.YtmpdocplcgbpkaaGreatDoorZ14
import Derived.Test.YtmpdocplcgbpkaaGreatDoorZ10
namespace Go.Proofs.YtmpdocplcgbpkaaGreatDoor
set_option linter.unusedSimpArgs false
set_option linter.unusedVariables false
open Go.RowKit
def lO (l : Ln) : Bool := dg l && (decide (0 < l.t.length) && (decide (0 < j7 l.t) && decide (eR 0 l.t = 1)))
def bX : Nat → List Nat
 | 0 => [0]
 | 1 => [1]
 | _ => []
set_option maxRecDepth 100000 in
set_option maxHeartbeats 8000000 in
theorem oU (l : Ln) : AFn Tryz.prog 105 [.agg (lnA l)] [] (.c (.bool (lO l))) [] := by
 have hck := ew l
 unfold iw at hck
 unfold lO
 cases hb : dg l with
 | false =>
  rw [hb,if_neg (by decide),dF] at hck
  rw [Bool.false_and]
  clear hb
  refine bm [] Tryz.func105 rfl Tryz.ntmps105 (Nat.le_of_ble_eq_true rfl) (Nat.le_of_ble_eq_true rfl) fun w0 G0 B0 Pr hB0 => ?_
  simp only [bD,bj,List.cons_append,List.nil_append]
  repeat' (first | (with_reducible refine hY _ ?_;clear hY Y) | ((with_reducible first | refine aX rfl (aR fun K' hK' => aa ?_) | refine hK' _ (ab fun Y hY => aa ?_) | refine aW rfl (ab fun Y hY => aa ?_) | refine ab fun Y hY => aa ?_ | refine ag tk0 bX (ab fun Y hY => aa ?_) | refine aa ?_ | refine aH ?_);(try clear hK' K');(try dsimp only [aop]);try simp only [go_sem,↓reduceIte,Nat.reduceEqDiff,Nat.reduceLT,Nat.reduceLeDiff,Nat.reduceAdd,Nat.reduceSub,Nat.reduceMul,Nat.reduceBEq,Nat.reduceBNe,Nat.reducePow,Int.reduceToNat,Int.reduceLE,Int.reduceLT,Int.reduceMul,Int.reduceEq,Int.reducePow,Int.reduceAdd,Int.reduceSub,Int.reduceNeg,reduceCtorEq,bX,Tryz.results105]) | (with_reducible first | refine aI ?_ | refine am rfl ?_ | refine bg ?_ ?_ | refine aP ?_ | refine aS ?_ | refine bi fun K hK => ?_ | refine aL ?_) | (with_reducible refine hK _ ?_;clear hK K) | ((with_reducible refine aF ?_ ?_);(· decide)) | (with_reducible refine aK (hck) ?_))
 | true =>
 rw [hb,if_pos rfl,dh] at hck
 rw [Bool.true_and]
 have hg := xP l hb
 clear hb
 obtain ⟨c,t⟩ := l
 simp only at hg ⊢
 by_cases h0 : 0 < t.length
 ·rw [decide_eq_true h0,Bool.true_and]
  have h0' : ((0 : Int) < (t.length : Int)) = True := eq_true (by omega)
  have hg1 := rG h0
  have hfl := cM t
  have hh : j7 t = t[0].2 := by unfold j7;rw [List.getD_eq_getElem?_getD,List.getElem?_eq_getElem h0];rfl
  rw [hh]
  generalize t[0].2 = x at *
  by_cases hx : 0 < x
  ·rw [decide_eq_true hx,Bool.true_and]
   have hx' : (0 < x) = True := eq_true hx
   generalize eR 0 t = g at *
   by_cases hg1' : g = 1
   ·rw [decide_eq_true hg1']
    subst hg1'
    have hg2 : AFn Tryz.prog 118 [.agg (lnA ⟨c,t⟩)] [] (inA 1) [] := hg
    clear hg
    refine bm [] Tryz.func105 rfl Tryz.ntmps105 (Nat.le_of_ble_eq_true rfl) (Nat.le_of_ble_eq_true rfl) fun w0 G0 B0 Pr hB0 => ?_
    simp only [bD,bj,List.cons_append,List.nil_append]
    repeat' (first | (with_reducible refine hY _ ?_;clear hY Y) | ((with_reducible first | refine aX rfl (aR fun K' hK' => aa ?_) | refine hK' _ (ab fun Y hY => aa ?_) | refine aW rfl (ab fun Y hY => aa ?_) | refine ab fun Y hY => aa ?_ | refine aR fun K' hK' => aa ?_ | refine ag tk0 bX (ab fun Y hY => aa ?_) | refine aa ?_ | refine aH ?_);(try clear hK' K');(try dsimp only [aop]);try simp only [go_sem,↓reduceIte,Nat.reduceEqDiff,Nat.reduceLT,Nat.reduceLeDiff,Nat.reduceAdd,Nat.reduceSub,Nat.reduceMul,Nat.reduceBEq,Nat.reduceBNe,Nat.reducePow,Int.reduceToNat,Int.reduceLE,Int.reduceLT,Int.reduceMul,Int.reduceEq,Int.reducePow,Int.reduceAdd,Int.reduceSub,Int.reduceNeg,reduceCtorEq,bX,Tryz.results105,h0',hg1,hfl,hx']) | (with_reducible first | refine aI ?_ | refine ao ?_ | refine aP ?_ | refine aS ?_ | refine bi fun K hK => ?_ | refine aL ?_) | (with_reducible refine hK _ ?_;clear hK K) | ((with_reducible refine aF ?_ ?_);(· decide)) | (with_reducible refine aV ?_ ?_;(· (try and_intros) <;> first | omega | assumption | (simp only [List.length_append,List.length_map,List.length_cons,List.length_nil] <;> omega))) | (with_reducible refine aK (hck) ?_) | (with_reducible refine ce (d6) ?_) | (with_reducible refine aK (hg2) ?_))
   ·rw [decide_eq_false hg1']
    have hgz : ((g : Int) = 1) = False := eq_false (by omega)
    refine bm [] Tryz.func105 rfl Tryz.ntmps105 (Nat.le_of_ble_eq_true rfl) (Nat.le_of_ble_eq_true rfl) fun w0 G0 B0 Pr hB0 => ?_
    simp only [bD,bj,List.cons_append,List.nil_append]
    repeat' (first | (with_reducible refine hY _ ?_;clear hY Y) | ((with_reducible first | refine aX rfl (aR fun K' hK' => aa ?_) | refine hK' _ (ab fun Y hY => aa ?_) | refine aW rfl (ab fun Y hY => aa ?_) | refine ab fun Y hY => aa ?_ | refine aR fun K' hK' => aa ?_ | refine ag tk0 bX (ab fun Y hY => aa ?_) | refine aa ?_ | refine aH ?_);(try clear hK' K');(try dsimp only [aop]);try simp only [go_sem,↓reduceIte,Nat.reduceEqDiff,Nat.reduceLT,Nat.reduceLeDiff,Nat.reduceAdd,Nat.reduceSub,Nat.reduceMul,Nat.reduceBEq,Nat.reduceBNe,Nat.reducePow,Int.reduceToNat,Int.reduceLE,Int.reduceLT,Int.reduceMul,Int.reduceEq,Int.reducePow,Int.reduceAdd,Int.reduceSub,Int.reduceNeg,reduceCtorEq,bX,Tryz.results105,h0',hg1,hfl,hx',hgz]) | (with_reducible first | refine aI ?_ | refine ao ?_ | refine aP ?_ | refine aS ?_ | refine bi fun K hK => ?_ | refine aL ?_) | (with_reducible refine hK _ ?_;clear hK K) | ((with_reducible refine aF ?_ ?_);(· decide)) | (with_reducible refine aV ?_ ?_;(· (try and_intros) <;> first | omega | assumption | (simp only [List.length_append,List.length_map,List.length_cons,List.length_nil] <;> omega))) | (with_reducible refine aK (hck) ?_) | (with_reducible refine ce (d6) ?_) | (with_reducible refine aK (hg) ?_))
  ·rw [decide_eq_false hx,Bool.false_and]
   have hx' : (0 < x) = False := eq_false hx
   refine bm [] Tryz.func105 rfl Tryz.ntmps105 (Nat.le_of_ble_eq_true rfl) (Nat.le_of_ble_eq_true rfl) fun w0 G0 B0 Pr hB0 => ?_
   simp only [bD,bj,List.cons_append,List.nil_append]
   repeat' (first | (with_reducible refine hY _ ?_;clear hY Y) | ((with_reducible first | refine aX rfl (aR fun K' hK' => aa ?_) | refine hK' _ (ab fun Y hY => aa ?_) | refine aW rfl (ab fun Y hY => aa ?_) | refine ab fun Y hY => aa ?_ | refine aR fun K' hK' => aa ?_ | refine ag tk0 bX (ab fun Y hY => aa ?_) | refine aa ?_ | refine aH ?_);(try clear hK' K');(try dsimp only [aop]);try simp only [go_sem,↓reduceIte,Nat.reduceEqDiff,Nat.reduceLT,Nat.reduceLeDiff,Nat.reduceAdd,Nat.reduceSub,Nat.reduceMul,Nat.reduceBEq,Nat.reduceBNe,Nat.reducePow,Int.reduceToNat,Int.reduceLE,Int.reduceLT,Int.reduceMul,Int.reduceEq,Int.reducePow,Int.reduceAdd,Int.reduceSub,Int.reduceNeg,reduceCtorEq,bX,Tryz.results105,h0',hg1,hfl,hx']) | (with_reducible first | refine aI ?_ | refine am rfl ?_ | refine ao ?_ | refine bg ?_ ?_ | refine aP ?_ | refine aS ?_ | refine bi fun K hK => ?_ | refine aL ?_) | (with_reducible refine hK _ ?_;clear hK K) | ((with_reducible refine aF ?_ ?_);(· decide)) | (with_reducible refine aV ?_ ?_;(· (try and_intros) <;> first | omega | assumption | (simp only [List.length_append,List.length_map,List.length_cons,List.length_nil] <;> omega))) | (with_reducible refine aK (hck) ?_) | (with_reducible refine ce (d6) ?_))
 ·rw [decide_eq_false h0,Bool.false_and]
  have h0' : ((0 : Int) < (t.length : Int)) = False := eq_false (by omega)
  refine bm [] Tryz.func105 rfl Tryz.ntmps105 (Nat.le_of_ble_eq_true rfl) (Nat.le_of_ble_eq_true rfl) fun w0 G0 B0 Pr hB0 => ?_
  simp only [bD,bj,List.cons_append,List.nil_append]
  repeat' (first | (with_reducible refine hY _ ?_;clear hY Y) | ((with_reducible first | refine aX rfl (aR fun K' hK' => aa ?_) | refine hK' _ (ab fun Y hY => aa ?_) | refine aW rfl (ab fun Y hY => aa ?_) | refine ab fun Y hY => aa ?_ | refine aR fun K' hK' => aa ?_ | refine ag tk0 bX (ab fun Y hY => aa ?_) | refine aa ?_ | refine aH ?_);(try clear hK' K');(try dsimp only [aop]);try simp only [go_sem,↓reduceIte,Nat.reduceEqDiff,Nat.reduceLT,Nat.reduceLeDiff,Nat.reduceAdd,Nat.reduceSub,Nat.reduceMul,Nat.reduceBEq,Nat.reduceBNe,Nat.reducePow,Int.reduceToNat,Int.reduceLE,Int.reduceLT,Int.reduceMul,Int.reduceEq,Int.reducePow,Int.reduceAdd,Int.reduceSub,Int.reduceNeg,reduceCtorEq,bX,Tryz.results105,h0']) | (with_reducible first | refine aI ?_ | refine am rfl ?_ | refine ao ?_ | refine bg ?_ ?_ | refine aP ?_ | refine aS ?_ | refine bi fun K hK => ?_ | refine aL ?_) | (with_reducible refine hK _ ?_;clear hK K) | ((with_reducible refine aF ?_ ?_);(· decide)) | (with_reducible refine aK (hck) ?_) | (with_reducible refine ce (d6) ?_))
def okW (k : Int) (l : Ln) (ks : List Fo) : Bool :=
 if k = 0 ∨ k = 1 then gq l && decide ((ks.length : Int) = 0) else if k = 2 then lO l && decide ((ks.length : Int) = 0)
 else if k = 4 then gq l && (decide ((ks.length : Int) = 1) && decide ((ks.headD fT).kind = 2)) else if k = 5 ∨ k = 6 then gq l else false
mutual
def fe : Fo → Int → Int → Int
 | .mk k l ks,d,z => if okW k l ks = true ∧ 1 ≤ d then eS ks (d - 1) (z - 1) else -1
def eS : List Fo → Int → Int → Int
 | [],_,z => z
 | f :: r,d,z => if 0 ≤ z then eS r d (fe f d z) else z
end
mutual
theorem qb : ∀ (f : Fo) (d z : Int),0 ≤ z → -1 ≤ fe f d z ∧ fe f d z ≤ z
 | .mk k l ks,d,z,hz => by
  rw [fe]
  split
  ·have := qc ks (d - 1) (z - 1) (by omega)
   omega
  ·omega
theorem qc : ∀ (l : List Fo) (d z : Int),-1 ≤ z → -1 ≤ eS l d z ∧ eS l d z ≤ z
 | [],_,z,hz => by rw [eS];omega
 | f :: r,d,z,hz => by
  rw [eS]
  split
  ·rename_i h
   have h1 := qb f d z h
   have h2 := qc r d (fe f d z) h1.1
   omega
  ·omega
end
theorem rv (d z : Int) {ks : List Fo} {k : Nat} (h : k < ks.length) : eS (ks.drop k) d z = if 0 ≤ z then eS (ks.drop (k + 1)) d (fe ks[k] d z) else z := by
 rw [List.drop_eq_getElem_cons h,eS]
def aU : Nat → List Nat
 | 0 => [0,1,2]
 | 1 => [1,2,3]
 | 2 => [1,2,3,7]
 | 3 => [1,2,3,7]
 | 4 => [1,2,3,7,8]
 | 5 => [1,2,3,7,8,24]
 | 6 => [1,2,3,7,8,24]
 | 7 => [1,2,3,7]
 | 8 => [1,2,3,7,8,24]
 | 9 => [1,2,3]
 | 10 => [1,2,3,7,8,24]
 | 11 => [1,2,3,7]
 | 12 => [1,2,3,7,8,24]
 | 13 => [1,2,3,7,8,24]
 | 14 => [1,2,3,7]
 | 15 => [1,2,3,8]
 | 16 => []
 | 17 => [1,2,3]
 | 18 => [1,2,3,9]
 | 19 => [1,2,3,9]
 | 20 => [1,2,3,9]
 | 21 => [2]
 | _ => []
set_option maxRecDepth 100000 in
set_option maxHeartbeats 16000000 in
theorem xD : ∀ f,OkF f → ∀ (d z : Int),0 ≤ d → d ≤ 1000 → 0 ≤ z → z ≤ 1000000 → AFn Tryz.prog 71 [.agg (foA f),inA d,inA z] [] (inA (fe f d z)) [] := by
 refine im fun k l ks hlt0 hlk hoks IH d z hd0 hd1 hz0 hz1 => ?_
 have hcan := oU l
 unfold Lg at hlk
 obtain ⟨c,t⟩ := l
 rw [cZ]
 have hwz : IntKind.i64.wrap (z - 1) = z - 1 := bQ (by omega) (by omega)
 have hW : fe (.mk k ⟨c,t⟩ ks) d z = if okW k ⟨c,t⟩ ks = true ∧ 1 ≤ d then eS ks (d - 1) (z - 1) else -1 := by rw [fe]
 rw [hW]
 clear hW
 refine bm [] Tryz.func71 rfl Tryz.ntmps71 (Nat.le_of_ble_eq_true rfl) (Nat.le_of_ble_eq_true rfl) fun w0 G0 B0 Pr hB0 => ?_
 simp only [bD,bj,List.cons_append,List.nil_append]
 apply kz (α := Unit) (fun _ => [(1,inA d),(2,inA z),(3,.loc 10003 0),(7,.c (.bool (gq ⟨c,t⟩))),(10003,.bc (frm k c t ks) 27)]) (fun _ => True)
 case use =>
  intro key
  by_cases h1 : c = 0
  ·by_cases h2 : (t.length : Int) = 0
   ·have hn : gq ⟨c,t⟩ = true := by unfold gq;rw [decide_eq_true h1,decide_eq_true h2];rfl
    have h1' : (c = 0) = True := eq_true h1
    have h2' : ((t.length : Int) = 0) = True := eq_true h2
    repeat' (first | (with_reducible refine hY _ ?_;clear hY Y) | ((with_reducible first | refine aX rfl (aR fun K' hK' => aa ?_) | refine hK' _ (ab fun Y hY => aa ?_) | refine aW rfl (ab fun Y hY => aa ?_) | refine ab fun Y hY => aa ?_ | refine aR fun K' hK' => aa ?_);(try clear hK' K');(try dsimp only [aop]);try simp only [go_sem,↓reduceIte,Nat.reduceEqDiff,Nat.reduceLT,Nat.reduceLeDiff,Nat.reduceAdd,Nat.reduceSub,Nat.reduceMul,Nat.reduceBEq,Nat.reduceBNe,Nat.reducePow,Int.reduceToNat,Int.reduceLE,Int.reduceLT,Int.reduceMul,Int.reduceEq,Int.reducePow,Int.reduceAdd,Int.reduceSub,Int.reduceNeg,reduceCtorEq,aU,Tryz.results71,h1',h2']) | (with_reducible first | refine aI ?_ | refine ao ?_ | refine aP ?_ | refine bi fun K hK => ?_) | ((with_reducible refine cS 2 ?_ ?_);(· rfl)) | ((with_reducible refine ca 2 tk0 aU ?_ (ab fun Y hY => aa ?_));(· rfl);(try dsimp only [aop]);try simp only [go_sem,↓reduceIte,Nat.reduceEqDiff,Nat.reduceLT,Nat.reduceLeDiff,Nat.reduceAdd,Nat.reduceSub,Nat.reduceMul,Nat.reduceBEq,Nat.reduceBNe,Nat.reducePow,Int.reduceToNat,Int.reduceLE,Int.reduceLT,Int.reduceMul,Int.reduceEq,Int.reducePow,Int.reduceAdd,Int.reduceSub,Int.reduceNeg,reduceCtorEq,aU,Tryz.results71,h1',h2']) | (with_reducible refine hK _ ?_;clear hK K) | ((with_reducible refine aF ?_ ?_);(· decide)))
    exact cf (L := [1,2,3,7]) (by simp only [go_sem,↓reduceIte,Nat.reduceEqDiff,Nat.reduceLT,Nat.reduceLeDiff,Nat.reduceAdd,Nat.reduceSub,Nat.reduceMul,Nat.reduceBEq,Nat.reduceBNe,Nat.reducePow,Int.reduceToNat,Int.reduceLE,Int.reduceLT,Int.reduceMul,Int.reduceEq,Int.reducePow,Int.reduceAdd,Int.reduceSub,Int.reduceNeg,reduceCtorEq,hn];try exact rfl) (key () trivial)
   ·have hn : gq ⟨c,t⟩ = false := by unfold gq;rw [decide_eq_true h1,decide_eq_false h2];rfl
    have h1' : (c = 0) = True := eq_true h1
    have h2' : ((t.length : Int) = 0) = False := eq_false h2
    repeat' (first | (with_reducible refine hY _ ?_;clear hY Y) | ((with_reducible first | refine aX rfl (aR fun K' hK' => aa ?_) | refine hK' _ (ab fun Y hY => aa ?_) | refine aW rfl (ab fun Y hY => aa ?_) | refine ab fun Y hY => aa ?_ | refine aR fun K' hK' => aa ?_);(try clear hK' K');(try dsimp only [aop]);try simp only [go_sem,↓reduceIte,Nat.reduceEqDiff,Nat.reduceLT,Nat.reduceLeDiff,Nat.reduceAdd,Nat.reduceSub,Nat.reduceMul,Nat.reduceBEq,Nat.reduceBNe,Nat.reducePow,Int.reduceToNat,Int.reduceLE,Int.reduceLT,Int.reduceMul,Int.reduceEq,Int.reducePow,Int.reduceAdd,Int.reduceSub,Int.reduceNeg,reduceCtorEq,aU,Tryz.results71,h1',h2']) | (with_reducible first | refine aI ?_ | refine ao ?_ | refine aP ?_ | refine bi fun K hK => ?_) | ((with_reducible refine cS 2 ?_ ?_);(· rfl)) | ((with_reducible refine ca 2 tk0 aU ?_ (ab fun Y hY => aa ?_));(· rfl);(try dsimp only [aop]);try simp only [go_sem,↓reduceIte,Nat.reduceEqDiff,Nat.reduceLT,Nat.reduceLeDiff,Nat.reduceAdd,Nat.reduceSub,Nat.reduceMul,Nat.reduceBEq,Nat.reduceBNe,Nat.reducePow,Int.reduceToNat,Int.reduceLE,Int.reduceLT,Int.reduceMul,Int.reduceEq,Int.reducePow,Int.reduceAdd,Int.reduceSub,Int.reduceNeg,reduceCtorEq,aU,Tryz.results71,h1',h2']) | (with_reducible refine hK _ ?_;clear hK K) | ((with_reducible refine aF ?_ ?_);(· decide)))
    exact cf (L := [1,2,3,7]) (by simp only [go_sem,↓reduceIte,Nat.reduceEqDiff,Nat.reduceLT,Nat.reduceLeDiff,Nat.reduceAdd,Nat.reduceSub,Nat.reduceMul,Nat.reduceBEq,Nat.reduceBNe,Nat.reducePow,Int.reduceToNat,Int.reduceLE,Int.reduceLT,Int.reduceMul,Int.reduceEq,Int.reducePow,Int.reduceAdd,Int.reduceSub,Int.reduceNeg,reduceCtorEq,hn];try exact rfl) (key () trivial)
  ·have hn : gq ⟨c,t⟩ = false := by unfold gq;rw [decide_eq_false h1];rfl
   have h1' : (c = 0) = False := eq_false h1
   repeat' (first | (with_reducible refine hY _ ?_;clear hY Y) | ((with_reducible first | refine aX rfl (aR fun K' hK' => aa ?_) | refine hK' _ (ab fun Y hY => aa ?_) | refine aW rfl (ab fun Y hY => aa ?_) | refine ab fun Y hY => aa ?_ | refine aa ?_);(try clear hK' K');(try dsimp only [aop]);try simp only [go_sem,↓reduceIte,Nat.reduceEqDiff,Nat.reduceLT,Nat.reduceLeDiff,Nat.reduceAdd,Nat.reduceSub,Nat.reduceMul,Nat.reduceBEq,Nat.reduceBNe,Nat.reducePow,Int.reduceToNat,Int.reduceLE,Int.reduceLT,Int.reduceMul,Int.reduceEq,Int.reducePow,Int.reduceAdd,Int.reduceSub,Int.reduceNeg,reduceCtorEq,aU,Tryz.results71,h1']) | (with_reducible first | refine aI ?_ | refine am rfl ?_ | refine bg ?_ ?_ | refine aP ?_ | refine bi fun K hK => ?_) | ((with_reducible refine cS 2 ?_ ?_);(· rfl)) | ((with_reducible refine ca 2 tk0 aU ?_ (ab fun Y hY => aa ?_));(· rfl);(try dsimp only [aop]);try simp only [go_sem,↓reduceIte,Nat.reduceEqDiff,Nat.reduceLT,Nat.reduceLeDiff,Nat.reduceAdd,Nat.reduceSub,Nat.reduceMul,Nat.reduceBEq,Nat.reduceBNe,Nat.reducePow,Int.reduceToNat,Int.reduceLE,Int.reduceLT,Int.reduceMul,Int.reduceEq,Int.reducePow,Int.reduceAdd,Int.reduceSub,Int.reduceNeg,reduceCtorEq,aU,Tryz.results71,h1']) | (with_reducible refine hK _ ?_;clear hK K) | ((with_reducible refine aF ?_ ?_);(· decide)))
   exact cf (L := [1,2,3,7]) (by simp only [go_sem,↓reduceIte,Nat.reduceEqDiff,Nat.reduceLT,Nat.reduceLeDiff,Nat.reduceAdd,Nat.reduceSub,Nat.reduceMul,Nat.reduceBEq,Nat.reduceBNe,Nat.reducePow,Int.reduceToNat,Int.reduceLE,Int.reduceLT,Int.reduceMul,Int.reduceEq,Int.reducePow,Int.reduceAdd,Int.reduceSub,Int.reduceNeg,reduceCtorEq,hn];try exact rfl) (key () trivial)
 case key =>
 rintro _ _
 obtain ⟨b,hb⟩ : ∃ b,b = gq ⟨c,t⟩ := ⟨_,rfl⟩
 obtain ⟨cn,hcn⟩ : ∃ cn,cn = lO ⟨c,t⟩ := ⟨_,rfl⟩
 have ho : okW k ⟨c,t⟩ ks = if k = 0 ∨ k = 1 then b && decide ((ks.length : Int) = 0) else if k = 2 then cn && decide ((ks.length : Int) = 0)
  else if k = 4 then b && (decide ((ks.length : Int) = 1) && decide ((ks.headD fT).kind = 2)) else if k = 5 ∨ k = 6 then b else false := by rw [hb,hcn];rfl
 rw [← hb]
 rw [← hcn] at hcan
 generalize okW k ⟨c,t⟩ ks = o at *
 clear hb hcn
 apply kz (α := Unit) (fun _ => [(1,inA d),(2,inA (z - 1)),(3,.loc 10003 0),(8,.c (.bool o)),(10003,.bc (frm k c t ks) 27)]) (fun _ => True)
 case use =>
  intro key
  by_cases k0 : k = 0 ∨ k = 1
  ·have ho1 : o = (b && decide ((ks.length : Int) = 0)) := by rw [ho,if_pos k0]
   by_cases hbt : b = true
   ·by_cases k00 : k = 0
    ·repeat' (first | (with_reducible refine hY _ ?_;clear hY Y) | ((with_reducible first | refine aX rfl (aR fun K' hK' => aa ?_) | refine hK' _ (ab fun Y hY => aa ?_) | refine aW rfl (ab fun Y hY => aa ?_) | refine ab fun Y hY => aa ?_ | refine aR fun K' hK' => aa ?_);(try clear hK' K');(try dsimp only [aop]);try simp only [go_sem,↓reduceIte,Nat.reduceEqDiff,Nat.reduceLT,Nat.reduceLeDiff,Nat.reduceAdd,Nat.reduceSub,Nat.reduceMul,Nat.reduceBEq,Nat.reduceBNe,Nat.reducePow,Int.reduceToNat,Int.reduceLE,Int.reduceLT,Int.reduceMul,Int.reduceEq,Int.reducePow,Int.reduceAdd,Int.reduceSub,Int.reduceNeg,reduceCtorEq,aU,Tryz.results71,k00,hwz,hbt]) | (with_reducible first | refine aI ?_ | refine ao ?_ | refine aP ?_ | refine bi fun K hK => ?_ | refine aD ?_ | refine ay ?_ | refine ah ?_ | refine av ?_) | ((with_reducible refine cS 15 ?_ ?_);(· rfl)) | ((with_reducible refine ca 15 tk0 aU ?_ (ab fun Y hY => aa ?_));(· rfl);(try dsimp only [aop]);try simp only [go_sem,↓reduceIte,Nat.reduceEqDiff,Nat.reduceLT,Nat.reduceLeDiff,Nat.reduceAdd,Nat.reduceSub,Nat.reduceMul,Nat.reduceBEq,Nat.reduceBNe,Nat.reducePow,Int.reduceToNat,Int.reduceLE,Int.reduceLT,Int.reduceMul,Int.reduceEq,Int.reducePow,Int.reduceAdd,Int.reduceSub,Int.reduceNeg,reduceCtorEq,aU,Tryz.results71,k00,hwz,hbt]) | (with_reducible refine hK _ ?_;clear hK K) | ((with_reducible first | refine aF ?_ ?_ | refine ai ?_ ?_);(· decide)))
     exact cf (L := [1,2,3,8]) (by simp only [go_sem,↓reduceIte,Nat.reduceEqDiff,Nat.reduceLT,Nat.reduceLeDiff,Nat.reduceAdd,Nat.reduceSub,Nat.reduceMul,Nat.reduceBEq,Nat.reduceBNe,Nat.reducePow,Int.reduceToNat,Int.reduceLE,Int.reduceLT,Int.reduceMul,Int.reduceEq,Int.reducePow,Int.reduceAdd,Int.reduceSub,Int.reduceNeg,reduceCtorEq,ho1,hbt,k00,Bool.true_and];try exact rfl) (key () trivial)
    ·have k1 : k = 1 := k0.resolve_left k00
     repeat' (first | (with_reducible refine hY _ ?_;clear hY Y) | ((with_reducible first | refine aX rfl (aR fun K' hK' => aa ?_) | refine hK' _ (ab fun Y hY => aa ?_) | refine aW rfl (ab fun Y hY => aa ?_) | refine ab fun Y hY => aa ?_ | refine aR fun K' hK' => aa ?_);(try clear hK' K');(try dsimp only [aop]);try simp only [go_sem,↓reduceIte,Nat.reduceEqDiff,Nat.reduceLT,Nat.reduceLeDiff,Nat.reduceAdd,Nat.reduceSub,Nat.reduceMul,Nat.reduceBEq,Nat.reduceBNe,Nat.reducePow,Int.reduceToNat,Int.reduceLE,Int.reduceLT,Int.reduceMul,Int.reduceEq,Int.reducePow,Int.reduceAdd,Int.reduceSub,Int.reduceNeg,reduceCtorEq,aU,Tryz.results71,k1,hwz,hbt]) | (with_reducible first | refine aI ?_ | refine ao ?_ | refine aP ?_ | refine bi fun K hK => ?_ | refine aD ?_ | refine aC ?_ | refine ay ?_ | refine ah ?_) | ((with_reducible refine cS 15 ?_ ?_);(· rfl)) | ((with_reducible refine ca 15 tk0 aU ?_ (ab fun Y hY => aa ?_));(· rfl);(try dsimp only [aop]);try simp only [go_sem,↓reduceIte,Nat.reduceEqDiff,Nat.reduceLT,Nat.reduceLeDiff,Nat.reduceAdd,Nat.reduceSub,Nat.reduceMul,Nat.reduceBEq,Nat.reduceBNe,Nat.reducePow,Int.reduceToNat,Int.reduceLE,Int.reduceLT,Int.reduceMul,Int.reduceEq,Int.reducePow,Int.reduceAdd,Int.reduceSub,Int.reduceNeg,reduceCtorEq,aU,Tryz.results71,k1,hwz,hbt]) | (with_reducible refine hK _ ?_;clear hK K) | ((with_reducible first | refine aF ?_ ?_ | refine ai ?_ ?_);(· decide)))
     exact cf (L := [1,2,3,8]) (by simp only [go_sem,↓reduceIte,Nat.reduceEqDiff,Nat.reduceLT,Nat.reduceLeDiff,Nat.reduceAdd,Nat.reduceSub,Nat.reduceMul,Nat.reduceBEq,Nat.reduceBNe,Nat.reducePow,Int.reduceToNat,Int.reduceLE,Int.reduceLT,Int.reduceMul,Int.reduceEq,Int.reducePow,Int.reduceAdd,Int.reduceSub,Int.reduceNeg,reduceCtorEq,ho1,hbt,k1,Bool.true_and];try exact rfl) (key () trivial)
   ·have hbf : b = false := by simpa using hbt
    by_cases k00 : k = 0
    ·repeat' (first | (with_reducible refine hY _ ?_;clear hY Y) | ((with_reducible first | refine aX rfl (aR fun K' hK' => aa ?_) | refine hK' _ (ab fun Y hY => aa ?_) | refine aW rfl (ab fun Y hY => aa ?_) | refine ab fun Y hY => aa ?_ | refine aa ?_);(try clear hK' K');(try dsimp only [aop]);try simp only [go_sem,↓reduceIte,Nat.reduceEqDiff,Nat.reduceLT,Nat.reduceLeDiff,Nat.reduceAdd,Nat.reduceSub,Nat.reduceMul,Nat.reduceBEq,Nat.reduceBNe,Nat.reducePow,Int.reduceToNat,Int.reduceLE,Int.reduceLT,Int.reduceMul,Int.reduceEq,Int.reducePow,Int.reduceAdd,Int.reduceSub,Int.reduceNeg,reduceCtorEq,aU,Tryz.results71,k00,hwz,hbf]) | (with_reducible first | refine aI ?_ | refine am rfl ?_ | refine bg ?_ ?_ | refine aP ?_ | refine bi fun K hK => ?_ | refine aD ?_ | refine ay ?_ | refine ah ?_ | refine av ?_) | ((with_reducible refine cS 15 ?_ ?_);(· rfl)) | ((with_reducible refine ca 15 tk0 aU ?_ (ab fun Y hY => aa ?_));(· rfl);(try dsimp only [aop]);try simp only [go_sem,↓reduceIte,Nat.reduceEqDiff,Nat.reduceLT,Nat.reduceLeDiff,Nat.reduceAdd,Nat.reduceSub,Nat.reduceMul,Nat.reduceBEq,Nat.reduceBNe,Nat.reducePow,Int.reduceToNat,Int.reduceLE,Int.reduceLT,Int.reduceMul,Int.reduceEq,Int.reducePow,Int.reduceAdd,Int.reduceSub,Int.reduceNeg,reduceCtorEq,aU,Tryz.results71,k00,hwz,hbf]) | (with_reducible refine hK _ ?_;clear hK K) | ((with_reducible first | refine aF ?_ ?_ | refine ai ?_ ?_);(· decide)))
     exact cf (L := [1,2,3,8]) (by simp only [go_sem,↓reduceIte,Nat.reduceEqDiff,Nat.reduceLT,Nat.reduceLeDiff,Nat.reduceAdd,Nat.reduceSub,Nat.reduceMul,Nat.reduceBEq,Nat.reduceBNe,Nat.reducePow,Int.reduceToNat,Int.reduceLE,Int.reduceLT,Int.reduceMul,Int.reduceEq,Int.reducePow,Int.reduceAdd,Int.reduceSub,Int.reduceNeg,reduceCtorEq,ho1,hbf,k00,Bool.false_and];try exact rfl) (key () trivial)
    ·have k1 : k = 1 := k0.resolve_left k00
     repeat' (first | (with_reducible refine hY _ ?_;clear hY Y) | ((with_reducible first | refine aX rfl (aR fun K' hK' => aa ?_) | refine hK' _ (ab fun Y hY => aa ?_) | refine aW rfl (ab fun Y hY => aa ?_) | refine ab fun Y hY => aa ?_ | refine aa ?_);(try clear hK' K');(try dsimp only [aop]);try simp only [go_sem,↓reduceIte,Nat.reduceEqDiff,Nat.reduceLT,Nat.reduceLeDiff,Nat.reduceAdd,Nat.reduceSub,Nat.reduceMul,Nat.reduceBEq,Nat.reduceBNe,Nat.reducePow,Int.reduceToNat,Int.reduceLE,Int.reduceLT,Int.reduceMul,Int.reduceEq,Int.reducePow,Int.reduceAdd,Int.reduceSub,Int.reduceNeg,reduceCtorEq,aU,Tryz.results71,k1,hwz,hbf]) | (with_reducible first | refine aI ?_ | refine am rfl ?_ | refine bg ?_ ?_ | refine aP ?_ | refine bi fun K hK => ?_ | refine aD ?_ | refine aC ?_ | refine ay ?_ | refine ah ?_) | ((with_reducible refine cS 15 ?_ ?_);(· rfl)) | ((with_reducible refine ca 15 tk0 aU ?_ (ab fun Y hY => aa ?_));(· rfl);(try dsimp only [aop]);try simp only [go_sem,↓reduceIte,Nat.reduceEqDiff,Nat.reduceLT,Nat.reduceLeDiff,Nat.reduceAdd,Nat.reduceSub,Nat.reduceMul,Nat.reduceBEq,Nat.reduceBNe,Nat.reducePow,Int.reduceToNat,Int.reduceLE,Int.reduceLT,Int.reduceMul,Int.reduceEq,Int.reducePow,Int.reduceAdd,Int.reduceSub,Int.reduceNeg,reduceCtorEq,aU,Tryz.results71,k1,hwz,hbf]) | (with_reducible refine hK _ ?_;clear hK K) | ((with_reducible first | refine aF ?_ ?_ | refine ai ?_ ?_);(· decide)))
     exact cf (L := [1,2,3,8]) (by simp only [go_sem,↓reduceIte,Nat.reduceEqDiff,Nat.reduceLT,Nat.reduceLeDiff,Nat.reduceAdd,Nat.reduceSub,Nat.reduceMul,Nat.reduceBEq,Nat.reduceBNe,Nat.reducePow,Int.reduceToNat,Int.reduceLE,Int.reduceLT,Int.reduceMul,Int.reduceEq,Int.reducePow,Int.reduceAdd,Int.reduceSub,Int.reduceNeg,reduceCtorEq,ho1,hbf,k1,Bool.false_and];try exact rfl) (key () trivial)
  ·rw [if_neg k0] at ho
   have e0 : (k = 0) = False := eq_false fun e => k0 (.inl e)
   have e1 : (k = 1) = False := eq_false fun e => k0 (.inr e)
   by_cases k2 : k = 2
   ·have ho1 : o = (cn && decide ((ks.length : Int) = 0)) := by rw [ho,if_pos k2]
    by_cases hct : cn = true
    ·repeat' (first | (with_reducible refine hY _ ?_;clear hY Y) | ((with_reducible first | refine aX rfl (aR fun K' hK' => aa ?_) | refine hK' _ (ab fun Y hY => aa ?_) | refine aW rfl (ab fun Y hY => aa ?_) | refine ab fun Y hY => aa ?_ | refine aR fun K' hK' => aa ?_ | refine aa ?_);(try clear hK' K');(try dsimp only [aop]);try simp only [go_sem,↓reduceIte,Nat.reduceEqDiff,Nat.reduceLT,Nat.reduceLeDiff,Nat.reduceAdd,Nat.reduceSub,Nat.reduceMul,Nat.reduceBEq,Nat.reduceBNe,Nat.reducePow,Int.reduceToNat,Int.reduceLE,Int.reduceLT,Int.reduceMul,Int.reduceEq,Int.reducePow,Int.reduceAdd,Int.reduceSub,Int.reduceNeg,reduceCtorEq,aU,Tryz.results71,k2,hwz,hct]) | (with_reducible first | refine aI ?_ | refine ao ?_ | refine aP ?_ | refine bi fun K hK => ?_ | refine aD ?_ | refine aC ?_ | refine ay ?_ | refine ah ?_) | ((with_reducible refine cS 15 ?_ ?_);(· rfl)) | ((with_reducible refine ca 15 tk0 aU ?_ (ab fun Y hY => aa ?_));(· rfl);(try dsimp only [aop]);try simp only [go_sem,↓reduceIte,Nat.reduceEqDiff,Nat.reduceLT,Nat.reduceLeDiff,Nat.reduceAdd,Nat.reduceSub,Nat.reduceMul,Nat.reduceBEq,Nat.reduceBNe,Nat.reducePow,Int.reduceToNat,Int.reduceLE,Int.reduceLT,Int.reduceMul,Int.reduceEq,Int.reducePow,Int.reduceAdd,Int.reduceSub,Int.reduceNeg,reduceCtorEq,aU,Tryz.results71,k2,hwz,hct]) | (with_reducible refine hK _ ?_;clear hK K) | ((with_reducible first | refine aF ?_ ?_ | refine ai ?_ ?_);(· decide)) | (with_reducible refine aK (hcan) ?_))
     exact cf (L := [1,2,3,8]) (by simp only [go_sem,↓reduceIte,Nat.reduceEqDiff,Nat.reduceLT,Nat.reduceLeDiff,Nat.reduceAdd,Nat.reduceSub,Nat.reduceMul,Nat.reduceBEq,Nat.reduceBNe,Nat.reducePow,Int.reduceToNat,Int.reduceLE,Int.reduceLT,Int.reduceMul,Int.reduceEq,Int.reducePow,Int.reduceAdd,Int.reduceSub,Int.reduceNeg,reduceCtorEq,ho1,hct,k2,Bool.true_and];try exact rfl) (key () trivial)
    ·have hcf : cn = false := by simpa using hct
     repeat' (first | (with_reducible refine hY _ ?_;clear hY Y) | ((with_reducible first | refine aX rfl (aR fun K' hK' => aa ?_) | refine hK' _ (ab fun Y hY => aa ?_) | refine aW rfl (ab fun Y hY => aa ?_) | refine ab fun Y hY => aa ?_ | refine aa ?_);(try clear hK' K');(try dsimp only [aop]);try simp only [go_sem,↓reduceIte,Nat.reduceEqDiff,Nat.reduceLT,Nat.reduceLeDiff,Nat.reduceAdd,Nat.reduceSub,Nat.reduceMul,Nat.reduceBEq,Nat.reduceBNe,Nat.reducePow,Int.reduceToNat,Int.reduceLE,Int.reduceLT,Int.reduceMul,Int.reduceEq,Int.reducePow,Int.reduceAdd,Int.reduceSub,Int.reduceNeg,reduceCtorEq,aU,Tryz.results71,k2,hwz,hcf]) | (with_reducible first | refine aI ?_ | refine am rfl ?_ | refine bg ?_ ?_ | refine aP ?_ | refine bi fun K hK => ?_ | refine aD ?_ | refine aC ?_ | refine ay ?_ | refine ah ?_) | ((with_reducible refine cS 15 ?_ ?_);(· rfl)) | ((with_reducible refine ca 15 tk0 aU ?_ (ab fun Y hY => aa ?_));(· rfl);(try dsimp only [aop]);try simp only [go_sem,↓reduceIte,Nat.reduceEqDiff,Nat.reduceLT,Nat.reduceLeDiff,Nat.reduceAdd,Nat.reduceSub,Nat.reduceMul,Nat.reduceBEq,Nat.reduceBNe,Nat.reducePow,Int.reduceToNat,Int.reduceLE,Int.reduceLT,Int.reduceMul,Int.reduceEq,Int.reducePow,Int.reduceAdd,Int.reduceSub,Int.reduceNeg,reduceCtorEq,aU,Tryz.results71,k2,hwz,hcf]) | (with_reducible refine hK _ ?_;clear hK K) | ((with_reducible first | refine aF ?_ ?_ | refine ai ?_ ?_);(· decide)) | (with_reducible refine aK (hcan) ?_))
     exact cf (L := [1,2,3,8]) (by simp only [go_sem,↓reduceIte,Nat.reduceEqDiff,Nat.reduceLT,Nat.reduceLeDiff,Nat.reduceAdd,Nat.reduceSub,Nat.reduceMul,Nat.reduceBEq,Nat.reduceBNe,Nat.reducePow,Int.reduceToNat,Int.reduceLE,Int.reduceLT,Int.reduceMul,Int.reduceEq,Int.reducePow,Int.reduceAdd,Int.reduceSub,Int.reduceNeg,reduceCtorEq,ho1,hcf,k2,Bool.false_and];try exact rfl) (key () trivial)
   ·rw [if_neg k2] at ho
    have e2 : (k = 2) = False := eq_false k2
    by_cases k4 : k = 4
    ·rw [if_pos k4] at ho
     by_cases hbt : b = true
     ·by_cases hn1 : (ks.length : Int) = 1
      ·have ho1 : o = decide ((ks.headD fT).kind = 2) := by rw [ho,hbt,decide_eq_true hn1];rfl
       have hn1' : ((ks.length : Int) = 1) = True := eq_true hn1
       have hnn : ks ≠ [] := fun e => by rw [e] at hn1;simp at hn1
       have hpos : 0 < ks.length := by omega
       have hg0 := fh hpos
       have hhd : ks.headD fT = ks[0] := by cases ks with | nil => exact absurd rfl hnn | cons f r => rfl
       rw [hhd] at ho1
       have hfl := dy ks
       have hq : (cU ks).getD 0 .u = inA ks[0].kind := by
        cases ks with
        | nil => exact absurd rfl hnn
        | cons f r => obtain ⟨fk,fl,fks⟩ := f;simp [cU,foA,Fo.kind]
       have hpl : ((0 : Int) < (ks.length : Int)) = True := eq_true (by omega)
       have hp4 : (1 ≤ ks.length * 4) = True := eq_true (by omega)
       have hp5 : (0 < ks.length * 4) = True := eq_true (by omega)
       repeat' (first | (with_reducible refine hY _ ?_;clear hY Y) | ((with_reducible first | refine aX rfl (aR fun K' hK' => aa ?_) | refine hK' _ (ab fun Y hY => aa ?_) | refine aW rfl (ab fun Y hY => aa ?_) | refine ab fun Y hY => aa ?_ | refine aR fun K' hK' => aa ?_);(try clear hK' K');(try dsimp only [aop]);try simp only [go_sem,↓reduceIte,Nat.reduceEqDiff,Nat.reduceLT,Nat.reduceLeDiff,Nat.reduceAdd,Nat.reduceSub,Nat.reduceMul,Nat.reduceBEq,Nat.reduceBNe,Nat.reducePow,Int.reduceToNat,Int.reduceLE,Int.reduceLT,Int.reduceMul,Int.reduceEq,Int.reducePow,Int.reduceAdd,Int.reduceSub,Int.reduceNeg,reduceCtorEq,aU,Tryz.results71,k4,hwz,hbt,hn1',hfl,hq,hpl,hp4,hp5]) | (with_reducible first | refine aI ?_ | refine ao ?_ | refine aP ?_ | refine bi fun K hK => ?_ | refine aD ?_ | refine aC ?_ | refine ay ?_ | refine ah ?_) | ((with_reducible refine cS 15 ?_ ?_);(· rfl)) | ((with_reducible refine ca 15 tk0 aU ?_ (ab fun Y hY => aa ?_));(· rfl);(try dsimp only [aop]);try simp only [go_sem,↓reduceIte,Nat.reduceEqDiff,Nat.reduceLT,Nat.reduceLeDiff,Nat.reduceAdd,Nat.reduceSub,Nat.reduceMul,Nat.reduceBEq,Nat.reduceBNe,Nat.reducePow,Int.reduceToNat,Int.reduceLE,Int.reduceLT,Int.reduceMul,Int.reduceEq,Int.reducePow,Int.reduceAdd,Int.reduceSub,Int.reduceNeg,reduceCtorEq,aU,Tryz.results71,k4,hwz,hbt,hn1',hfl,hq,hpl,hp4,hp5]) | (with_reducible refine hK _ ?_;clear hK K) | ((with_reducible first | refine aF ?_ ?_ | refine ai ?_ ?_);(· decide)))
       exact cf (L := [1,2,3,8]) (by simp only [go_sem,↓reduceIte,Nat.reduceEqDiff,Nat.reduceLT,Nat.reduceLeDiff,Nat.reduceAdd,Nat.reduceSub,Nat.reduceMul,Nat.reduceBEq,Nat.reduceBNe,Nat.reducePow,Int.reduceToNat,Int.reduceLE,Int.reduceLT,Int.reduceMul,Int.reduceEq,Int.reducePow,Int.reduceAdd,Int.reduceSub,Int.reduceNeg,reduceCtorEq,ho1,hbt,k4,Bool.true_and];try exact rfl) (key () trivial)
      ·have ho1 : o = false := by rw [ho,hbt,decide_eq_false hn1];rfl
       have hn1' : ((ks.length : Int) = 1) = False := eq_false hn1
       repeat' (first | (with_reducible refine hY _ ?_;clear hY Y) | ((with_reducible first | refine aX rfl (aR fun K' hK' => aa ?_) | refine hK' _ (ab fun Y hY => aa ?_) | refine aW rfl (ab fun Y hY => aa ?_) | refine ab fun Y hY => aa ?_ | refine aR fun K' hK' => aa ?_ | refine aa ?_);(try clear hK' K');(try dsimp only [aop]);try simp only [go_sem,↓reduceIte,Nat.reduceEqDiff,Nat.reduceLT,Nat.reduceLeDiff,Nat.reduceAdd,Nat.reduceSub,Nat.reduceMul,Nat.reduceBEq,Nat.reduceBNe,Nat.reducePow,Int.reduceToNat,Int.reduceLE,Int.reduceLT,Int.reduceMul,Int.reduceEq,Int.reducePow,Int.reduceAdd,Int.reduceSub,Int.reduceNeg,reduceCtorEq,aU,Tryz.results71,k4,hwz,hbt,hn1']) | (with_reducible first | refine aI ?_ | refine am rfl ?_ | refine ao ?_ | refine bg ?_ ?_ | refine aP ?_ | refine bi fun K hK => ?_ | refine aD ?_ | refine aC ?_ | refine ay ?_ | refine ah ?_) | ((with_reducible refine cS 15 ?_ ?_);(· rfl)) | ((with_reducible refine ca 15 tk0 aU ?_ (ab fun Y hY => aa ?_));(· rfl);(try dsimp only [aop]);try simp only [go_sem,↓reduceIte,Nat.reduceEqDiff,Nat.reduceLT,Nat.reduceLeDiff,Nat.reduceAdd,Nat.reduceSub,Nat.reduceMul,Nat.reduceBEq,Nat.reduceBNe,Nat.reducePow,Int.reduceToNat,Int.reduceLE,Int.reduceLT,Int.reduceMul,Int.reduceEq,Int.reducePow,Int.reduceAdd,Int.reduceSub,Int.reduceNeg,reduceCtorEq,aU,Tryz.results71,k4,hwz,hbt,hn1']) | (with_reducible refine hK _ ?_;clear hK K) | ((with_reducible first | refine aF ?_ ?_ | refine ai ?_ ?_);(· decide)))
       exact cf (L := [1,2,3,8]) (by simp only [go_sem,↓reduceIte,Nat.reduceEqDiff,Nat.reduceLT,Nat.reduceLeDiff,Nat.reduceAdd,Nat.reduceSub,Nat.reduceMul,Nat.reduceBEq,Nat.reduceBNe,Nat.reducePow,Int.reduceToNat,Int.reduceLE,Int.reduceLT,Int.reduceMul,Int.reduceEq,Int.reducePow,Int.reduceAdd,Int.reduceSub,Int.reduceNeg,reduceCtorEq,ho1,hbt,k4,Bool.true_and];try exact rfl) (key () trivial)
     ·have hbf : b = false := by simpa using hbt
      have ho1 : o = false := by rw [ho,hbf];rfl
      repeat' (first | (with_reducible refine hY _ ?_;clear hY Y) | ((with_reducible first | refine aX rfl (aR fun K' hK' => aa ?_) | refine hK' _ (ab fun Y hY => aa ?_) | refine aW rfl (ab fun Y hY => aa ?_) | refine ab fun Y hY => aa ?_ | refine aa ?_);(try clear hK' K');(try dsimp only [aop]);try simp only [go_sem,↓reduceIte,Nat.reduceEqDiff,Nat.reduceLT,Nat.reduceLeDiff,Nat.reduceAdd,Nat.reduceSub,Nat.reduceMul,Nat.reduceBEq,Nat.reduceBNe,Nat.reducePow,Int.reduceToNat,Int.reduceLE,Int.reduceLT,Int.reduceMul,Int.reduceEq,Int.reducePow,Int.reduceAdd,Int.reduceSub,Int.reduceNeg,reduceCtorEq,aU,Tryz.results71,k4,hwz,hbf]) | (with_reducible first | refine aI ?_ | refine am rfl ?_ | refine bg ?_ ?_ | refine aP ?_ | refine bi fun K hK => ?_ | refine aD ?_ | refine aC ?_ | refine ay ?_ | refine ah ?_) | ((with_reducible refine cS 15 ?_ ?_);(· rfl)) | ((with_reducible refine ca 15 tk0 aU ?_ (ab fun Y hY => aa ?_));(· rfl);(try dsimp only [aop]);try simp only [go_sem,↓reduceIte,Nat.reduceEqDiff,Nat.reduceLT,Nat.reduceLeDiff,Nat.reduceAdd,Nat.reduceSub,Nat.reduceMul,Nat.reduceBEq,Nat.reduceBNe,Nat.reducePow,Int.reduceToNat,Int.reduceLE,Int.reduceLT,Int.reduceMul,Int.reduceEq,Int.reducePow,Int.reduceAdd,Int.reduceSub,Int.reduceNeg,reduceCtorEq,aU,Tryz.results71,k4,hwz,hbf]) | (with_reducible refine hK _ ?_;clear hK K) | ((with_reducible first | refine aF ?_ ?_ | refine ai ?_ ?_);(· decide)))
      exact cf (L := [1,2,3,8]) (by simp only [go_sem,↓reduceIte,Nat.reduceEqDiff,Nat.reduceLT,Nat.reduceLeDiff,Nat.reduceAdd,Nat.reduceSub,Nat.reduceMul,Nat.reduceBEq,Nat.reduceBNe,Nat.reducePow,Int.reduceToNat,Int.reduceLE,Int.reduceLT,Int.reduceMul,Int.reduceEq,Int.reducePow,Int.reduceAdd,Int.reduceSub,Int.reduceNeg,reduceCtorEq,ho1,hbf,k4,Bool.true_and];try exact rfl) (key () trivial)
    ·rw [if_neg k4] at ho
     have e4 : (k = 4) = False := eq_false k4
     by_cases k5 : k = 5 ∨ k = 6
     ·have ho1 : o = b := by rw [ho,if_pos k5]
      by_cases k55 : k = 5
      ·repeat' (first | (with_reducible refine hY _ ?_;clear hY Y) | ((with_reducible first | refine aX rfl (aR fun K' hK' => aa ?_) | refine hK' _ (ab fun Y hY => aa ?_) | refine ab fun Y hY => aa ?_);(try clear hK' K');(try dsimp only [aop]);try simp only [go_sem,↓reduceIte,Nat.reduceEqDiff,Nat.reduceLT,Nat.reduceLeDiff,Nat.reduceAdd,Nat.reduceSub,Nat.reduceMul,Nat.reduceBEq,Nat.reduceBNe,Nat.reducePow,Int.reduceToNat,Int.reduceLE,Int.reduceLT,Int.reduceMul,Int.reduceEq,Int.reducePow,Int.reduceAdd,Int.reduceSub,Int.reduceNeg,reduceCtorEq,aU,Tryz.results71,k55,hwz]) | (with_reducible first | refine aI ?_ | refine aP ?_ | refine bi fun K hK => ?_ | refine aD ?_ | refine aC ?_ | refine ay ?_ | refine ah ?_ | refine av ?_) | ((with_reducible refine cS 15 ?_ ?_);(· rfl)) | ((with_reducible refine ca 15 tk0 aU ?_ (ab fun Y hY => aa ?_));(· rfl);(try dsimp only [aop]);try simp only [go_sem,↓reduceIte,Nat.reduceEqDiff,Nat.reduceLT,Nat.reduceLeDiff,Nat.reduceAdd,Nat.reduceSub,Nat.reduceMul,Nat.reduceBEq,Nat.reduceBNe,Nat.reducePow,Int.reduceToNat,Int.reduceLE,Int.reduceLT,Int.reduceMul,Int.reduceEq,Int.reducePow,Int.reduceAdd,Int.reduceSub,Int.reduceNeg,reduceCtorEq,aU,Tryz.results71,k55,hwz]) | (with_reducible refine hK _ ?_;clear hK K) | ((with_reducible refine ai ?_ ?_);(· decide)))
       exact cf (L := [1,2,3,8]) (by simp only [go_sem,↓reduceIte,Nat.reduceEqDiff,Nat.reduceLT,Nat.reduceLeDiff,Nat.reduceAdd,Nat.reduceSub,Nat.reduceMul,Nat.reduceBEq,Nat.reduceBNe,Nat.reducePow,Int.reduceToNat,Int.reduceLE,Int.reduceLT,Int.reduceMul,Int.reduceEq,Int.reducePow,Int.reduceAdd,Int.reduceSub,Int.reduceNeg,reduceCtorEq,ho1,k55];try exact rfl) (key () trivial)
      ·have k6 : k = 6 := k5.resolve_left k55
       repeat' (first | (with_reducible refine hY _ ?_;clear hY Y) | ((with_reducible first | refine aX rfl (aR fun K' hK' => aa ?_) | refine hK' _ (ab fun Y hY => aa ?_) | refine ab fun Y hY => aa ?_);(try clear hK' K');(try dsimp only [aop]);try simp only [go_sem,↓reduceIte,Nat.reduceEqDiff,Nat.reduceLT,Nat.reduceLeDiff,Nat.reduceAdd,Nat.reduceSub,Nat.reduceMul,Nat.reduceBEq,Nat.reduceBNe,Nat.reducePow,Int.reduceToNat,Int.reduceLE,Int.reduceLT,Int.reduceMul,Int.reduceEq,Int.reducePow,Int.reduceAdd,Int.reduceSub,Int.reduceNeg,reduceCtorEq,aU,Tryz.results71,k6,hwz]) | (with_reducible first | refine aI ?_ | refine aP ?_ | refine bi fun K hK => ?_ | refine aD ?_ | refine aC ?_ | refine ay ?_ | refine ah ?_) | ((with_reducible refine cS 15 ?_ ?_);(· rfl)) | ((with_reducible refine ca 15 tk0 aU ?_ (ab fun Y hY => aa ?_));(· rfl);(try dsimp only [aop]);try simp only [go_sem,↓reduceIte,Nat.reduceEqDiff,Nat.reduceLT,Nat.reduceLeDiff,Nat.reduceAdd,Nat.reduceSub,Nat.reduceMul,Nat.reduceBEq,Nat.reduceBNe,Nat.reducePow,Int.reduceToNat,Int.reduceLE,Int.reduceLT,Int.reduceMul,Int.reduceEq,Int.reducePow,Int.reduceAdd,Int.reduceSub,Int.reduceNeg,reduceCtorEq,aU,Tryz.results71,k6,hwz]) | (with_reducible refine hK _ ?_;clear hK K) | ((with_reducible refine ai ?_ ?_);(· decide)))
       exact cf (L := [1,2,3,8]) (by simp only [go_sem,↓reduceIte,Nat.reduceEqDiff,Nat.reduceLT,Nat.reduceLeDiff,Nat.reduceAdd,Nat.reduceSub,Nat.reduceMul,Nat.reduceBEq,Nat.reduceBNe,Nat.reducePow,Int.reduceToNat,Int.reduceLE,Int.reduceLT,Int.reduceMul,Int.reduceEq,Int.reducePow,Int.reduceAdd,Int.reduceSub,Int.reduceNeg,reduceCtorEq,ho1,k6];try exact rfl) (key () trivial)
     ·have ho1 : o = false := by rw [ho,if_neg k5]
      have e5 : (k = 5) = False := eq_false fun e => k5 (.inl e)
      have e6 : (k = 6) = False := eq_false fun e => k5 (.inr e)
      repeat' (first | (with_reducible refine hY _ ?_;clear hY Y) | ((with_reducible first | refine aX rfl (aR fun K' hK' => aa ?_) | refine hK' _ (ab fun Y hY => aa ?_) | refine ab fun Y hY => aa ?_);(try clear hK' K');(try dsimp only [aop]);try simp only [go_sem,↓reduceIte,Nat.reduceEqDiff,Nat.reduceLT,Nat.reduceLeDiff,Nat.reduceAdd,Nat.reduceSub,Nat.reduceMul,Nat.reduceBEq,Nat.reduceBNe,Nat.reducePow,Int.reduceToNat,Int.reduceLE,Int.reduceLT,Int.reduceMul,Int.reduceEq,Int.reducePow,Int.reduceAdd,Int.reduceSub,Int.reduceNeg,reduceCtorEq,aU,Tryz.results71,e0,e1,e2,e4,e5,e6,hwz]) | (with_reducible first | refine aI ?_ | refine aP ?_ | refine bi fun K hK => ?_ | refine aC ?_ | refine ay ?_ | refine ah ?_ | refine av ?_) | ((with_reducible refine cS 15 ?_ ?_);(· rfl)) | ((with_reducible refine ca 15 tk0 aU ?_ (ab fun Y hY => aa ?_));(· rfl);(try dsimp only [aop]);try simp only [go_sem,↓reduceIte,Nat.reduceEqDiff,Nat.reduceLT,Nat.reduceLeDiff,Nat.reduceAdd,Nat.reduceSub,Nat.reduceMul,Nat.reduceBEq,Nat.reduceBNe,Nat.reducePow,Int.reduceToNat,Int.reduceLE,Int.reduceLT,Int.reduceMul,Int.reduceEq,Int.reducePow,Int.reduceAdd,Int.reduceSub,Int.reduceNeg,reduceCtorEq,aU,Tryz.results71,e0,e1,e2,e4,e5,e6,hwz]) | (with_reducible refine hK _ ?_;clear hK K) | ((with_reducible refine ai ?_ ?_);(· decide)))
      exact cf (L := [1,2,3,8]) (by simp only [go_sem,↓reduceIte,Nat.reduceEqDiff,Nat.reduceLT,Nat.reduceLeDiff,Nat.reduceAdd,Nat.reduceSub,Nat.reduceMul,Nat.reduceBEq,Nat.reduceBNe,Nat.reducePow,Int.reduceToNat,Int.reduceLE,Int.reduceLT,Int.reduceMul,Int.reduceEq,Int.reducePow,Int.reduceAdd,Int.reduceSub,Int.reduceNeg,reduceCtorEq,ho1];try exact rfl) (key () trivial)
 case key =>
 rintro _ _
 clear ho hcan
 cases o with
 | false =>
  rw [if_neg (by simp)]
  repeat' (first | (with_reducible refine hY _ ?_;clear hY Y) | ((with_reducible first | refine aX rfl (aR fun K' hK' => aa ?_) | refine hK' _ (ab fun Y hY => aa ?_) | refine aW rfl (ab fun Y hY => aa ?_) | refine ab fun Y hY => aa ?_ | refine ag tk0 aU (ab fun Y hY => aa ?_) | refine aa ?_ | refine aH ?_);(try clear hK' K');(try dsimp only [aop]);try simp only [go_sem,↓reduceIte,Nat.reduceEqDiff,Nat.reduceLT,Nat.reduceLeDiff,Nat.reduceAdd,Nat.reduceSub,Nat.reduceMul,Nat.reduceBEq,Nat.reduceBNe,Nat.reducePow,Int.reduceToNat,Int.reduceLE,Int.reduceLT,Int.reduceMul,Int.reduceEq,Int.reducePow,Int.reduceAdd,Int.reduceSub,Int.reduceNeg,reduceCtorEq,aU,Tryz.results71]) | (with_reducible first | refine aI ?_ | refine am rfl ?_ | refine bg ?_ ?_ | refine aP ?_ | refine aS ?_ | refine bi fun K hK => ?_ | refine aD ?_ | refine aQ ?_ | refine aL ?_) | (with_reducible refine hK _ ?_;clear hK K) | ((with_reducible first | refine aF ?_ ?_ | refine ai ?_ ?_);(· decide)))
 | true =>
 by_cases hd : 1 ≤ d
 ·rw [if_pos ⟨rfl,hd⟩]
  have hd' : (d < 1) = False := eq_false (by omega)
  have hwd : IntKind.i64.wrap (d - 1) = d - 1 := bQ (by omega) (by omega)
  have hw0 : eS (ks.drop 0) (d - 1) (z - 1) = eS ks (d - 1) (z - 1) := by rw [List.drop_zero]
  generalize eS ks (d - 1) (z - 1) = W at *
  repeat' (first | (with_reducible refine hY _ ?_;clear hY Y) | ((with_reducible first | refine aX rfl (aR fun K' hK' => aa ?_) | refine hK' _ (ab fun Y hY => aa ?_) | refine aW rfl (ab fun Y hY => aa ?_) | refine ab fun Y hY => aa ?_ | refine aR fun K' hK' => aa ?_ | refine ag tk0 aU (ab fun Y hY => aa ?_));(try clear hK' K');(try dsimp only [aop]);try simp only [go_sem,↓reduceIte,Nat.reduceEqDiff,Nat.reduceLT,Nat.reduceLeDiff,Nat.reduceAdd,Nat.reduceSub,Nat.reduceMul,Nat.reduceBEq,Nat.reduceBNe,Nat.reducePow,Int.reduceToNat,Int.reduceLE,Int.reduceLT,Int.reduceMul,Int.reduceEq,Int.reducePow,Int.reduceAdd,Int.reduceSub,Int.reduceNeg,reduceCtorEq,aU,Tryz.results71,hd']) | (with_reducible first | refine aI ?_ | refine ao ?_ | refine aP ?_ | refine aS ?_ | refine bi fun K hK => ?_ | refine aC ?_ | refine ah ?_ | refine av ?_ | refine au ?_) | (with_reducible refine hK _ ?_;clear hK K) | ((with_reducible first | refine aF ?_ ?_ | refine ai ?_ ?_);(· decide)))
  refine b7 (α := Nat × Int) (fun a => [(1,inA d),(2,inA a.2),(3,.loc 10003 0),(9,inA (a.1 : Int)),(10003,.bc (frm k c t ks) 27)])
   (fun a => a.1 ≤ ks.length ∧ (-1 ≤ a.2 ∧ a.2 ≤ 1000000) ∧ eS (ks.drop a.1) (d - 1) a.2 = W) (fun a => ks.length - a.1) (0,z - 1) [1,2,3,9] ?_ ⟨Nat.zero_le _,⟨by simp only;omega,by simp only;omega⟩,hw0⟩ ?_
  ·simp only [go_sem,↓reduceIte,Nat.reduceEqDiff,Nat.reduceLT,Nat.reduceLeDiff,Nat.reduceAdd,Nat.reduceSub,Nat.reduceMul,Nat.reduceBEq,Nat.reduceBNe,Nat.reducePow,Int.reduceToNat,Int.reduceLE,Int.reduceLT,Int.reduceMul,Int.reduceEq,Int.reducePow,Int.reduceAdd,Int.reduceSub,Int.reduceNeg,reduceCtorEq] <;> rfl
  clear hw0
  rintro ⟨i,y⟩ ⟨hi,⟨hy1,hy2⟩,hwi⟩ ih
  simp only at hi hy1 hy2 hwi ih ⊢
  by_cases hlt : i < ks.length
  ·have hlt' : ((i : Int) < (ks.length : Int)) = True := eq_true (by omega)
   have hkw := cC (n := i) (by omega)
   have hg0 := fh hlt
   have hfl := dy ks
   rw [rv _ _ hlt] at hwi
   by_cases hy : 0 ≤ y
   ·have hy' : (0 ≤ y) = True := eq_true hy
    rw [if_pos hy] at hwi
    have hc := IH ks[i] (List.getElem_mem hlt) (d - 1) y (by omega) (by omega) hy hy2
    have hbd := qb ks[i] (d - 1) y hy
    have ih' := ih (i + 1,fe ks[i] (d - 1) y) ⟨by simp only;omega,⟨hbd.1,by simp only;omega⟩,hwi⟩ (by simp only;omega)
    simp only at ih'
    clear ih IH hwi hbd
    generalize fe ks[i] (d - 1) y = y' at *
    generalize ks[i] = f at *
    obtain ⟨fk,⟨fc,ft⟩,fks⟩ := f
    rw [cZ] at hg0 hc
    repeat' (first | (with_reducible refine hY _ ?_;clear hY Y) | ((with_reducible first | refine aX rfl (aR fun K' hK' => aa ?_) | refine hK' _ (ab fun Y hY => aa ?_) | refine aW rfl (ab fun Y hY => aa ?_) | refine ab fun Y hY => aa ?_ | refine aR fun K' hK' => aa ?_ | refine ag tk0 aU (ab fun Y hY => aa ?_) | refine aa ?_);(try clear hK' K');(try dsimp only [aop]);try simp only [go_sem,↓reduceIte,Nat.reduceEqDiff,Nat.reduceLT,Nat.reduceLeDiff,Nat.reduceAdd,Nat.reduceSub,Nat.reduceMul,Nat.reduceBEq,Nat.reduceBNe,Nat.reducePow,Int.reduceToNat,Int.reduceLE,Int.reduceLT,Int.reduceMul,Int.reduceEq,Int.reducePow,Int.reduceAdd,Int.reduceSub,Int.reduceNeg,reduceCtorEq,aU,Tryz.results71,hlt',hy',hkw,hg0,hfl,hwd]) | (with_reducible first | refine aI ?_ | refine ao ?_ | refine aP ?_ | refine aS ?_ | refine bi fun K hK => ?_ | refine aD ?_ | refine ay ?_ | refine ah ?_ | refine av ?_) | (with_reducible refine hK _ ?_;clear hK K) | ((with_reducible first | refine aF ?_ ?_ | refine ai ?_ ?_);(· decide)) | (with_reducible refine aV ?_ ?_;(· (try and_intros) <;> first | omega | assumption | (simp only [List.length_append,List.length_map,List.length_cons,List.length_nil] <;> omega))) | (with_reducible refine aK (hc) ?_))
    refine bO [1,2,3,9] (by simp only [go_sem,↓reduceIte,Nat.reduceEqDiff,Nat.reduceLT,Nat.reduceLeDiff,Nat.reduceAdd,Nat.reduceSub,Nat.reduceMul,Nat.reduceBEq,Nat.reduceBNe,Nat.reducePow,Int.reduceToNat,Int.reduceLE,Int.reduceLT,Int.reduceMul,Int.reduceEq,Int.reducePow,Int.reduceAdd,Int.reduceSub,Int.reduceNeg,reduceCtorEq];exact rfl) ?_
    exact ih'
   ·have hy' : (0 ≤ y) = False := eq_false hy
    rw [if_neg hy] at hwi
    subst hwi
    clear ih IH
    repeat' (first | (with_reducible refine hY _ ?_;clear hY Y) | ((with_reducible first | refine aX rfl (aR fun K' hK' => aa ?_) | refine hK' _ (ab fun Y hY => aa ?_) | refine aW rfl (ab fun Y hY => aa ?_) | refine ab fun Y hY => aa ?_ | refine aR fun K' hK' => aa ?_ | refine ag tk0 aU (ab fun Y hY => aa ?_) | refine aa ?_ | refine aH ?_);(try clear hK' K');(try dsimp only [aop]);try simp only [go_sem,↓reduceIte,Nat.reduceEqDiff,Nat.reduceLT,Nat.reduceLeDiff,Nat.reduceAdd,Nat.reduceSub,Nat.reduceMul,Nat.reduceBEq,Nat.reduceBNe,Nat.reducePow,Int.reduceToNat,Int.reduceLE,Int.reduceLT,Int.reduceMul,Int.reduceEq,Int.reducePow,Int.reduceAdd,Int.reduceSub,Int.reduceNeg,reduceCtorEq,aU,Tryz.results71,hlt',hy']) | (with_reducible first | refine aI ?_ | refine ao ?_ | refine aP ?_ | refine aS ?_ | refine bi fun K hK => ?_ | refine aC ?_ | refine aO ?_ | refine ax ?_ | refine aL ?_ | refine ar ?_) | (with_reducible refine hK _ ?_;clear hK K) | ((with_reducible first | refine aF ?_ ?_ | refine ai ?_ ?_);(· decide)))
  ·have hlt' : ((i : Int) < (ks.length : Int)) = False := eq_false (by omega)
   obtain rfl : y = W := by rw [← hwi,List.drop_eq_nil_of_le (by omega),eS]
   clear ih IH hwi
   repeat' (first | (with_reducible refine hY _ ?_;clear hY Y) | ((with_reducible first | refine aX rfl (aR fun K' hK' => aa ?_) | refine hK' _ (ab fun Y hY => aa ?_) | refine aW rfl (ab fun Y hY => aa ?_) | refine ab fun Y hY => aa ?_ | refine ag tk0 aU (ab fun Y hY => aa ?_) | refine aa ?_ | refine aH ?_);(try clear hK' K');(try dsimp only [aop]);try simp only [go_sem,↓reduceIte,Nat.reduceEqDiff,Nat.reduceLT,Nat.reduceLeDiff,Nat.reduceAdd,Nat.reduceSub,Nat.reduceMul,Nat.reduceBEq,Nat.reduceBNe,Nat.reducePow,Int.reduceToNat,Int.reduceLE,Int.reduceLT,Int.reduceMul,Int.reduceEq,Int.reducePow,Int.reduceAdd,Int.reduceSub,Int.reduceNeg,reduceCtorEq,aU,Tryz.results71,hlt']) | (with_reducible first | refine aI ?_ | refine am rfl ?_ | refine bg ?_ ?_ | refine aP ?_ | refine aS ?_ | refine bi fun K hK => ?_ | refine aC ?_ | refine aO ?_ | refine ax ?_ | refine aL ?_ | refine ar ?_) | (with_reducible refine hK _ ?_;clear hK K) | ((with_reducible first | refine aF ?_ ?_ | refine ai ?_ ?_);(· decide)))
 ·rw [if_neg fun h => hd h.2]
  have hd' : (d < 1) = True := eq_true (by omega)
  repeat' (first | (with_reducible refine hY _ ?_;clear hY Y) | ((with_reducible first | refine aX rfl (aR fun K' hK' => aa ?_) | refine hK' _ (ab fun Y hY => aa ?_) | refine aW rfl (ab fun Y hY => aa ?_) | refine ab fun Y hY => aa ?_ | refine aR fun K' hK' => aa ?_ | refine ag tk0 aU (ab fun Y hY => aa ?_) | refine aa ?_ | refine aH ?_);(try clear hK' K');(try dsimp only [aop]);try simp only [go_sem,↓reduceIte,Nat.reduceEqDiff,Nat.reduceLT,Nat.reduceLeDiff,Nat.reduceAdd,Nat.reduceSub,Nat.reduceMul,Nat.reduceBEq,Nat.reduceBNe,Nat.reducePow,Int.reduceToNat,Int.reduceLE,Int.reduceLT,Int.reduceMul,Int.reduceEq,Int.reducePow,Int.reduceAdd,Int.reduceSub,Int.reduceNeg,reduceCtorEq,aU,Tryz.results71,hd']) | (with_reducible first | refine aI ?_ | refine ao ?_ | refine aP ?_ | refine aS ?_ | refine bi fun K hK => ?_ | refine aD ?_ | refine aQ ?_ | refine aL ?_) | (with_reducible refine hK _ ?_;clear hK K) | ((with_reducible first | refine aF ?_ ?_ | refine ai ?_ ?_);(· decide)))
def isN (f : Fo) : Bool := decide (0 ≤ fe f 128 20480)
def eY : Nat → List Nat
 | 0 => [0]
 | 1 => [1]
 | _ => []
set_option maxRecDepth 100000 in
theorem xU (f : Fo) (hok : OkF f) : AFn Tryz.prog 34 [.agg (foA f)] [] (.c (.bool (isN f))) [] := by
 have h := xD f hok 128 20480 (by decide) (by decide) (by decide) (by decide)
 unfold isN
 generalize fe f 128 20480 = W at *
 obtain ⟨k,⟨c,t⟩,ks⟩ := f
 rw [cZ] at h ⊢
 refine bm [] Tryz.func34 rfl Tryz.ntmps34 (Nat.le_of_ble_eq_true rfl) (Nat.le_of_ble_eq_true rfl) fun w0 G0 B0 Pr hB0 => ?_
 simp only [bD,bj,List.cons_append,List.nil_append]
 repeat' (first | (with_reducible refine hY _ ?_;clear hY Y) | ((with_reducible first | refine aX rfl (aR fun K' hK' => aa ?_) | refine hK' _ (ab fun Y hY => aa ?_) | refine ag tk0 eY (ab fun Y hY => aa ?_) | refine aa ?_ | refine aH ?_);(try clear hK' K');(try dsimp only [aop]);try simp only [go_sem,↓reduceIte,Nat.reduceEqDiff,Nat.reduceLT,Nat.reduceLeDiff,Nat.reduceAdd,Nat.reduceSub,Nat.reduceMul,Nat.reduceBEq,Nat.reduceBNe,Nat.reducePow,Int.reduceToNat,Int.reduceLE,Int.reduceLT,Int.reduceMul,Int.reduceEq,Int.reducePow,Int.reduceAdd,Int.reduceSub,Int.reduceNeg,reduceCtorEq,eY,Tryz.results34]) | (with_reducible first | refine aI ?_ | refine aP ?_ | refine aS ?_ | refine bi fun K hK => ?_ | refine aL ?_) | (with_reducible refine hK _ ?_;clear hK K) | (with_reducible refine aK (h) ?_))
end Go.Proofs.YtmpdocplcgbpkaaGreatDoor
namespace Go.Proofs.YtmpdocplcgbpkaaGreatDoor
set_option linter.unusedSimpArgs false
set_option linter.unusedVariables false
open Go.RowKit
mutual
theorem nB : ∀ (f : Fo) (d z : Int),0 ≤ fe f d z → fe f d z + tot f = z ∧ qK f
 | .mk k l ks,d,z,h => by
  rw [fe] at h ⊢
  split at h
  ·rename_i hc
   rw [if_pos hc]
   obtain ⟨h1,h2⟩ := kP ks (d - 1) (z - 1) h
   rw [tot,qK]
   refine ⟨by omega,fun e hn => ?_,h2⟩
   have hw := hc.1
   unfold okW at hw
   subst e
   rw [hn] at hw
   simp at hw
  ·omega
theorem kP : ∀ (l : List Fo) (d z : Int),0 ≤ eS l d z → eS l d z + d3 l = z ∧ ph l
 | [],d,z,h => by rw [eS,d3];exact ⟨by omega,trivial⟩
 | f :: r,d,z,h => by
  rw [eS] at h ⊢
  split at h
  ·rename_i hz
   rw [if_pos hz]
   obtain ⟨h1,h2⟩ := kP r d (fe f d z) h
   obtain ⟨g1,g2⟩ := nB f d z (by omega)
   rw [d3,ph]
   exact ⟨by omega,g2,h2⟩
  ·omega
end
theorem nT {f : Fo} (h : isN f = true) : tot f ≤ 20480 ∧ qK f := by
 unfold isN at h
 obtain ⟨h1,h2⟩ := nB f 128 20480 (of_decide_eq_true h)
 have := of_decide_eq_true h
 exact ⟨by omega,h2⟩
def eZ (cs : List (List Int)) : Nat := (cs.map List.length).sum
def df (n : Int) (cs : List (List Int)) : Nat :=
 if n < 0 ∨ 8192 < n then 1 else if 16384 < cs.length ∨ 131072 < eZ cs then 2 else if cs.any (fun c => c.any fun l => !ix n l) then 5 else 0
theorem nv {cs : List (List Int)} {k : Nat} (h : k < cs.length) : eZ (cs.take (k + 1)) = eZ (cs.take k) + cs[k].length := by
 unfold eZ;rw [List.take_succ_eq_append_getElem h,List.map_append,List.sum_append_nat];simp only [List.map_cons,List.map_nil,List.sum_cons,List.sum_nil,Nat.add_zero]
theorem kp (cs : List (List Int)) (k : Nat) : eZ (cs.take k) ≤ eZ cs := by
 have : eZ cs = eZ (cs.take k) + eZ (cs.drop k) := by
  unfold eZ
  rw [← List.sum_append_nat,← List.map_append,List.take_append_drop]
 omega
def bB : Nat → List Nat
 | 0 => [0,1]
 | 1 => [1,2]
 | 2 => []
 | 3 => [1,2]
 | 4 => []
 | 5 => [1,2]
 | 6 => [1,2,5]
 | 7 => [1,2,5,21,22,23]
 | 8 => [1,2,5,21,22,23]
 | 9 => [1,2,5,7,21,22,23]
 | 10 => []
 | 11 => [1,2,5,7,21,22,23]
 | 12 => [1,2,5,21,22,23]
 | 13 => [1,2]
 | 14 => [2,38,39,40]
 | 15 => [2,38,39,40]
 | 16 => [2,9,38,39,40]
 | 17 => []
 | 18 => [2,38,39,40]
 | 19 => []
 | _ => []
theorem qt : bx Tryz.prog 74 = true := by kernel_rfl
set_option maxRecDepth 100000 in
set_option maxHeartbeats 8000000 in
theorem ki (n : Int) (cs : List (List Int)) (hL : Lg cs) (hc : ∀ c ∈ cs,Lg c) : AFn Tryz.prog 37 [inA n,csA cs] [] (cK (df n cs)) [] := by
 unfold Lg at hL
 have hE : df n cs = if n < 0 ∨ 8192 < n then 1 else if 16384 < cs.length ∨ 131072 < eZ cs then 2 else if cs.any (fun c => c.any fun l => !ix n l) then 5 else 0 := rfl
 by_cases h1 : n < 0
 ·rw [hE,if_pos (.inl h1),qx]
  have h1' : (n < 0) = True := eq_true h1
  clear hE
  refine bm [] Tryz.func37 rfl Tryz.ntmps37 (Nat.le_of_ble_eq_true rfl) (Nat.le_of_ble_eq_true rfl) fun w0 G0 B0 Pr hB0 => ?_
  simp only [bD,bj,List.cons_append,List.nil_append]
  repeat' (first | (with_reducible refine hY _ ?_;clear hY Y) | ((with_reducible first | refine aX rfl (aR fun K' hK' => aa ?_) | refine hK' _ (ab fun Y hY => aa ?_) | refine aW rfl (ab fun Y hY => aa ?_) | refine ab fun Y hY => aa ?_ | refine ag tk0 bB (ab fun Y hY => aa ?_) | refine aa ?_ | refine aH ?_);(try clear hK' K');(try dsimp only [aop]);try simp only [go_sem,↓reduceIte,Nat.reduceEqDiff,Nat.reduceLT,Nat.reduceLeDiff,Nat.reduceAdd,Nat.reduceSub,Nat.reduceMul,Nat.reduceBEq,Nat.reduceBNe,Nat.reducePow,Int.reduceToNat,Int.reduceLE,Int.reduceLT,Int.reduceMul,Int.reduceEq,Int.reducePow,Int.reduceAdd,Int.reduceSub,Int.reduceNeg,reduceCtorEq,bB,Tryz.results37,h1']) | (with_reducible first | refine aI ?_ | refine am rfl ?_ | refine bg ?_ ?_ | refine aP ?_ | refine aS ?_ | refine bi fun K hK => ?_ | refine aD ?_ | refine aQ ?_ | refine aL ?_) | (with_reducible refine hK _ ?_;clear hK K) | ((with_reducible first | refine aF ?_ ?_ | refine ai ?_ ?_);(· decide)))
 have h1' : (n < 0) = False := eq_false h1
 by_cases h2 : 8192 < n
 ·rw [hE,if_pos (.inr h2),qx]
  have h2' : ((8192 : Int) < n) = True := eq_true h2
  clear hE
  refine bm [] Tryz.func37 rfl Tryz.ntmps37 (Nat.le_of_ble_eq_true rfl) (Nat.le_of_ble_eq_true rfl) fun w0 G0 B0 Pr hB0 => ?_
  simp only [bD,bj,List.cons_append,List.nil_append]
  repeat' (first | (with_reducible refine hY _ ?_;clear hY Y) | ((with_reducible first | refine aX rfl (aR fun K' hK' => aa ?_) | refine hK' _ (ab fun Y hY => aa ?_) | refine aW rfl (ab fun Y hY => aa ?_) | refine ab fun Y hY => aa ?_ | refine aR fun K' hK' => aa ?_ | refine ag tk0 bB (ab fun Y hY => aa ?_) | refine aa ?_ | refine aH ?_);(try clear hK' K');(try dsimp only [aop]);try simp only [go_sem,↓reduceIte,Nat.reduceEqDiff,Nat.reduceLT,Nat.reduceLeDiff,Nat.reduceAdd,Nat.reduceSub,Nat.reduceMul,Nat.reduceBEq,Nat.reduceBNe,Nat.reducePow,Int.reduceToNat,Int.reduceLE,Int.reduceLT,Int.reduceMul,Int.reduceEq,Int.reducePow,Int.reduceAdd,Int.reduceSub,Int.reduceNeg,reduceCtorEq,bB,Tryz.results37,h1',h2']) | (with_reducible first | refine aI ?_ | refine ao ?_ | refine aP ?_ | refine aS ?_ | refine bi fun K hK => ?_ | refine aD ?_ | refine aQ ?_ | refine aL ?_) | (with_reducible refine hK _ ?_;clear hK K) | ((with_reducible first | refine aF ?_ ?_ | refine ai ?_ ?_);(· decide)))
 have h2' : ((8192 : Int) < n) = False := eq_false h2
 rw [if_neg (by omega)] at hE
 by_cases h3 : 16384 < cs.length
 ·rw [hE,if_pos (.inl h3),gG]
  have h3' : ((16384 : Int) < (cs.length : Int)) = True := eq_true (by omega)
  clear hE
  refine bm [] Tryz.func37 rfl Tryz.ntmps37 (Nat.le_of_ble_eq_true rfl) (Nat.le_of_ble_eq_true rfl) fun w0 G0 B0 Pr hB0 => ?_
  simp only [bD,bj,List.cons_append,List.nil_append]
  repeat' (first | (with_reducible refine hY _ ?_;clear hY Y) | ((with_reducible first | refine aX rfl (aR fun K' hK' => aa ?_) | refine hK' _ (ab fun Y hY => aa ?_) | refine aW rfl (ab fun Y hY => aa ?_) | refine ab fun Y hY => aa ?_ | refine aR fun K' hK' => aa ?_ | refine ag tk0 bB (ab fun Y hY => aa ?_) | refine aa ?_ | refine aH ?_);(try clear hK' K');(try dsimp only [aop]);try simp only [go_sem,↓reduceIte,Nat.reduceEqDiff,Nat.reduceLT,Nat.reduceLeDiff,Nat.reduceAdd,Nat.reduceSub,Nat.reduceMul,Nat.reduceBEq,Nat.reduceBNe,Nat.reducePow,Int.reduceToNat,Int.reduceLE,Int.reduceLT,Int.reduceMul,Int.reduceEq,Int.reducePow,Int.reduceAdd,Int.reduceSub,Int.reduceNeg,reduceCtorEq,bB,Tryz.results37,h1',h2',h3']) | (with_reducible first | refine aI ?_ | refine ao ?_ | refine aP ?_ | refine aS ?_ | refine bi fun K hK => ?_ | refine aD ?_ | refine aC ?_ | refine aQ ?_ | refine av ?_ | refine aL ?_) | (with_reducible refine hK _ ?_;clear hK K) | ((with_reducible first | refine aF ?_ ?_ | refine ai ?_ ?_);(· decide)))
 have h3' : ((16384 : Int) < (cs.length : Int)) = False := eq_false (by omega)
 refine bm [] Tryz.func37 rfl Tryz.ntmps37 (Nat.le_of_ble_eq_true rfl) (Nat.le_of_ble_eq_true rfl) fun w0 G0 B0 Pr hB0 => ?_
 simp only [bD,bj,List.cons_append,List.nil_append]
 repeat' (first | (with_reducible refine hY _ ?_;clear hY Y) | ((with_reducible first | refine aX rfl (aR fun K' hK' => aa ?_) | refine hK' _ (ab fun Y hY => aa ?_) | refine aW rfl (ab fun Y hY => aa ?_) | refine ab fun Y hY => aa ?_ | refine aR fun K' hK' => aa ?_ | refine ag tk0 bB (ab fun Y hY => aa ?_));(try clear hK' K');(try dsimp only [aop]);try simp only [go_sem,↓reduceIte,Nat.reduceEqDiff,Nat.reduceLT,Nat.reduceLeDiff,Nat.reduceAdd,Nat.reduceSub,Nat.reduceMul,Nat.reduceBEq,Nat.reduceBNe,Nat.reducePow,Int.reduceToNat,Int.reduceLE,Int.reduceLT,Int.reduceMul,Int.reduceEq,Int.reducePow,Int.reduceAdd,Int.reduceSub,Int.reduceNeg,reduceCtorEq,bB,Tryz.results37,h1',h2',h3']) | (with_reducible first | refine aI ?_ | refine ao ?_ | refine aP ?_ | refine aS ?_ | refine bi fun K hK => ?_ | refine aC ?_ | refine ah ?_ | refine av ?_ | refine au ?_) | (with_reducible refine hK _ ?_;clear hK K) | ((with_reducible first | refine aF ?_ ?_ | refine ai ?_ ?_);(· decide)))
 refine b7 (α := Nat) (fun k => [(1,csA cs),(2,.loc 10002 0),(5,inA (eZ (cs.take k) : Int)),(21,csA cs),(22,inA (cs.length : Int)),(23,inA (k : Int)),(10002,.bc [inA n] 3)])
  (fun k => k ≤ cs.length ∧ eZ (cs.take k) ≤ 131072) (fun k => cs.length - k) 0 [1,2,5,21,22,23] ?_ ⟨Nat.zero_le _,by unfold eZ;simp⟩ ?_
 ·simp only [go_sem,↓reduceIte,Nat.reduceEqDiff,Nat.reduceLT,Nat.reduceLeDiff,Nat.reduceAdd,Nat.reduceSub,Nat.reduceMul,Nat.reduceBEq,Nat.reduceBNe,Nat.reducePow,Int.reduceToNat,Int.reduceLE,Int.reduceLT,Int.reduceMul,Int.reduceEq,Int.reducePow,Int.reduceAdd,Int.reduceSub,Int.reduceNeg,reduceCtorEq] <;> rfl
 rintro k ⟨hk,hs⟩ ih
 by_cases hlt : k < cs.length
 ·have hlt' : ((k : Int) < (cs.length : Int)) = True := eq_true (by omega)
  have hkw := cC (n := k) (by omega)
  have hg0 := jz hlt
  have hfl : (cs.map di).length = cs.length := List.length_map ..
  have hst := nv hlt
  have hsl := kp cs (k + 1)
  have hcl := hc _ (List.getElem_mem hlt)
  unfold Lg at hcl
  have hw1 : IntKind.i64.wrap (131072 - (eZ (cs.take k) : Int)) = 131072 - (eZ (cs.take k) : Int) := bQ (by omega) (by omega)
  by_cases hb : 131072 < eZ (cs.take (k + 1))
  ·rw [hE,if_pos (.inr (by omega)),gG]
   have hw2 : (131072 - (eZ (cs.take k) : Int) < (cs[k].length : Int)) = True := eq_true (by omega)
   clear ih hE hc
   generalize eZ (cs.take k) = S at *
   generalize cs[k] = c at *
   repeat' (first | (with_reducible refine hY _ ?_;clear hY Y) | ((with_reducible first | refine aX rfl (aR fun K' hK' => aa ?_) | refine hK' _ (ab fun Y hY => aa ?_) | refine ab fun Y hY => aa ?_ | refine ag tk0 bB (ab fun Y hY => aa ?_) | refine aa ?_ | refine aH ?_);(try clear hK' K');(try dsimp only [aop]);try simp only [go_sem,↓reduceIte,Nat.reduceEqDiff,Nat.reduceLT,Nat.reduceLeDiff,Nat.reduceAdd,Nat.reduceSub,Nat.reduceMul,Nat.reduceBEq,Nat.reduceBNe,Nat.reducePow,Int.reduceToNat,Int.reduceLE,Int.reduceLT,Int.reduceMul,Int.reduceEq,Int.reducePow,Int.reduceAdd,Int.reduceSub,Int.reduceNeg,reduceCtorEq,bB,Tryz.results37,hlt',hg0,hfl,hw1,hw2]) | (with_reducible first | refine aI ?_ | refine aP ?_ | refine aS ?_ | refine bi fun K hK => ?_ | refine aD ?_ | refine aQ ?_ | refine aA ?_ | refine ah ?_ | refine av ?_ | refine aL ?_) | (with_reducible refine hK _ ?_;clear hK K) | ((with_reducible refine ai ?_ ?_);(· decide)) | (with_reducible refine aV ?_ ?_;(· (try and_intros) <;> first | omega | assumption | (simp only [List.length_append,List.length_map,List.length_cons,List.length_nil] <;> omega))))
  ·have ih' := ih (k + 1) ⟨by omega,by omega⟩ (by omega)
   rw [hst] at ih'
   have hw2 : (131072 - (eZ (cs.take k) : Int) < (cs[k].length : Int)) = False := eq_false (by omega)
   have hw3 := eH (a := eZ (cs.take k)) (b := cs[k].length) (by omega)
   clear ih hE hc
   generalize eZ (cs.take k) = S at *
   generalize cs[k] = c at *
   repeat' (first | (with_reducible refine hY _ ?_;clear hY Y) | ((with_reducible first | refine aX rfl (aR fun K' hK' => aa ?_) | refine hK' _ (ab fun Y hY => aa ?_) | refine ab fun Y hY => aa ?_ | refine ag tk0 bB (ab fun Y hY => aa ?_));(try clear hK' K');(try dsimp only [aop]);try simp only [go_sem,↓reduceIte,Nat.reduceEqDiff,Nat.reduceLT,Nat.reduceLeDiff,Nat.reduceAdd,Nat.reduceSub,Nat.reduceMul,Nat.reduceBEq,Nat.reduceBNe,Nat.reducePow,Int.reduceToNat,Int.reduceLE,Int.reduceLT,Int.reduceMul,Int.reduceEq,Int.reducePow,Int.reduceAdd,Int.reduceSub,Int.reduceNeg,reduceCtorEq,bB,Tryz.results37,hlt',hkw,hg0,hfl,hw1,hw2,hw3]) | (with_reducible first | refine aI ?_ | refine aP ?_ | refine aS ?_ | refine bi fun K hK => ?_ | refine aD ?_ | refine aC ?_ | refine ay ?_ | refine ah ?_ | refine av ?_) | (with_reducible refine hK _ ?_;clear hK K) | ((with_reducible refine ai ?_ ?_);(· decide)) | (with_reducible refine aV ?_ ?_;(· (try and_intros) <;> first | omega | assumption | (simp only [List.length_append,List.length_map,List.length_cons,List.length_nil] <;> omega))))
   refine bO [1,2,5,21,22,23] (by simp only [go_sem,↓reduceIte,Nat.reduceEqDiff,Nat.reduceLT,Nat.reduceLeDiff,Nat.reduceAdd,Nat.reduceSub,Nat.reduceMul,Nat.reduceBEq,Nat.reduceBNe,Nat.reducePow,Int.reduceToNat,Int.reduceLE,Int.reduceLT,Int.reduceMul,Int.reduceEq,Int.reducePow,Int.reduceAdd,Int.reduceSub,Int.reduceNeg,reduceCtorEq];exact rfl) ?_
   exact ih'
 have hlt' : ((k : Int) < (cs.length : Int)) = False := eq_false (by omega)
 rw [List.take_of_length_le (by omega)] at hs
 rw [if_neg (by omega)] at hE
 clear ih
 repeat' (first | (with_reducible refine hY _ ?_;clear hY Y) | ((with_reducible first | refine aX rfl (aR fun K' hK' => aa ?_) | refine hK' _ (ab fun Y hY => aa ?_) | refine ab fun Y hY => aa ?_ | refine ag tk0 bB (ab fun Y hY => aa ?_));(try clear hK' K');(try dsimp only [aop]);try simp only [go_sem,↓reduceIte,Nat.reduceEqDiff,Nat.reduceLT,Nat.reduceLeDiff,Nat.reduceAdd,Nat.reduceSub,Nat.reduceMul,Nat.reduceBEq,Nat.reduceBNe,Nat.reducePow,Int.reduceToNat,Int.reduceLE,Int.reduceLT,Int.reduceMul,Int.reduceEq,Int.reducePow,Int.reduceAdd,Int.reduceSub,Int.reduceNeg,reduceCtorEq,bB,Tryz.results37,hlt']) | (with_reducible first | refine aI ?_ | refine aP ?_ | refine aS ?_ | refine bi fun K hK => ?_ | refine aC ?_ | refine aO ?_ | refine ax ?_ | refine ah ?_ | refine ar ?_ | refine au ?_) | (with_reducible refine hK _ ?_;clear hK K) | ((with_reducible refine ai ?_ ?_);(· decide)))
 refine b7 (α := Nat) (fun k => [(2,.loc 10002 0),(38,csA cs),(39,inA (cs.length : Int)),(40,inA (k : Int)),(10002,.bc [inA n] 3)])
  (fun k => k ≤ cs.length ∧ ∀ j (hj : j < cs.length),j < k → (cs[j].any fun l => !ix n l) = false) (fun k => cs.length - k) 0 [2,38,39,40] ?_ ⟨Nat.zero_le _,fun j _ hj => absurd hj (Nat.not_lt_zero _)⟩ ?_
 ·simp only [go_sem,↓reduceIte,Nat.reduceEqDiff,Nat.reduceLT,Nat.reduceLeDiff,Nat.reduceAdd,Nat.reduceSub,Nat.reduceMul,Nat.reduceBEq,Nat.reduceBNe,Nat.reducePow,Int.reduceToNat,Int.reduceLE,Int.reduceLT,Int.reduceMul,Int.reduceEq,Int.reducePow,Int.reduceAdd,Int.reduceSub,Int.reduceNeg,reduceCtorEq] <;> rfl
 clear hlt' hlt hk
 rintro k ⟨hk,hall⟩ ih
 by_cases hlt : k < cs.length
 ·have hlt' : ((k : Int) < (cs.length : Int)) = True := eq_true (by omega)
  have hkw := cC (n := k) (by omega)
  have hg0 := jz hlt
  have hfl : (cs.map di).length = cs.length := List.length_map ..
  have hh := qE cs[k] 74 n (fun l => !ix n l) qt (hc _ (List.getElem_mem hlt)) fun y _ => tZ n y (by omega)
  cases hb : cs[k].any fun l => !ix n l with
  | true =>
   rw [hE,if_pos (List.any_eq_true.2 ⟨_,List.getElem_mem hlt,hb⟩),dF]
   rw [hb] at hh
   clear ih hall hE hb hc
   generalize cs[k] = c at *
   repeat' (first | (with_reducible refine hY _ ?_;clear hY Y) | ((with_reducible first | refine aX rfl (aR fun K' hK' => aa ?_) | refine hK' _ (ab fun Y hY => aa ?_) | refine ab fun Y hY => aa ?_ | refine ag tk0 bB (ab fun Y hY => aa ?_) | refine aa ?_ | refine aH ?_);(try clear hK' K');(try dsimp only [aop]);try simp only [go_sem,↓reduceIte,Nat.reduceEqDiff,Nat.reduceLT,Nat.reduceLeDiff,Nat.reduceAdd,Nat.reduceSub,Nat.reduceMul,Nat.reduceBEq,Nat.reduceBNe,Nat.reducePow,Int.reduceToNat,Int.reduceLE,Int.reduceLT,Int.reduceMul,Int.reduceEq,Int.reducePow,Int.reduceAdd,Int.reduceSub,Int.reduceNeg,reduceCtorEq,bB,Tryz.results37,hlt',hg0,hfl]) | (with_reducible first | refine aI ?_ | refine aP ?_ | refine aS ?_ | refine bi fun K hK => ?_ | refine aD ?_ | refine aQ ?_ | refine aA ?_ | refine ah ?_ | refine av ?_ | refine aL ?_) | (with_reducible refine hK _ ?_;clear hK K) | ((with_reducible refine ai ?_ ?_);(· decide)) | (with_reducible refine aV ?_ ?_;(· (try and_intros) <;> first | omega | assumption | (simp only [List.length_append,List.length_map,List.length_cons,List.length_nil] <;> omega))) | (with_reducible refine aK (hh) ?_))
  | false =>
   have ih' := ih (k + 1) ⟨by omega,fun j hj hjk => by
    by_cases e : j < k
    ·exact hall j hj e
    ·obtain rfl : j = k := by omega
     exact hb⟩ (by omega)
   rw [hb] at hh
   clear ih hall hE hb hc
   generalize cs[k] = c at *
   repeat' (first | (with_reducible refine hY _ ?_;clear hY Y) | ((with_reducible first | refine aX rfl (aR fun K' hK' => aa ?_) | refine hK' _ (ab fun Y hY => aa ?_) | refine ab fun Y hY => aa ?_ | refine ag tk0 bB (ab fun Y hY => aa ?_) | refine aa ?_);(try clear hK' K');(try dsimp only [aop]);try simp only [go_sem,↓reduceIte,Nat.reduceEqDiff,Nat.reduceLT,Nat.reduceLeDiff,Nat.reduceAdd,Nat.reduceSub,Nat.reduceMul,Nat.reduceBEq,Nat.reduceBNe,Nat.reducePow,Int.reduceToNat,Int.reduceLE,Int.reduceLT,Int.reduceMul,Int.reduceEq,Int.reducePow,Int.reduceAdd,Int.reduceSub,Int.reduceNeg,reduceCtorEq,bB,Tryz.results37,hlt',hkw,hg0,hfl]) | (with_reducible first | refine aI ?_ | refine aP ?_ | refine aS ?_ | refine bi fun K hK => ?_ | refine aD ?_ | refine aC ?_ | refine ay ?_ | refine ah ?_ | refine av ?_) | (with_reducible refine hK _ ?_;clear hK K) | ((with_reducible refine ai ?_ ?_);(· decide)) | (with_reducible refine aV ?_ ?_;(· (try and_intros) <;> first | omega | assumption | (simp only [List.length_append,List.length_map,List.length_cons,List.length_nil] <;> omega))) | (with_reducible refine aK (hh) ?_))
   refine bO [2,38,39,40] (by simp only [go_sem,↓reduceIte,Nat.reduceEqDiff,Nat.reduceLT,Nat.reduceLeDiff,Nat.reduceAdd,Nat.reduceSub,Nat.reduceMul,Nat.reduceBEq,Nat.reduceBNe,Nat.reducePow,Int.reduceToNat,Int.reduceLE,Int.reduceLT,Int.reduceMul,Int.reduceEq,Int.reducePow,Int.reduceAdd,Int.reduceSub,Int.reduceNeg,reduceCtorEq];exact rfl) ?_
   exact ih'
 ·have hlt' : ((k : Int) < (cs.length : Int)) = False := eq_false (by omega)
  have hno : (cs.any fun c => c.any fun l => !ix n l) = false := by
   rw [List.any_eq_false]
   intro x hx
   obtain ⟨j,hj,rfl⟩ := List.getElem_of_mem hx
   rw [hall j hj (by omega)];simp
  rw [hE,hno,if_neg (by decide),dh]
  clear ih hall hE hc
  repeat' (first | (with_reducible refine hY _ ?_;clear hY Y) | ((with_reducible first | refine aX rfl (aR fun K' hK' => aa ?_) | refine hK' _ (ab fun Y hY => aa ?_) | refine ab fun Y hY => aa ?_ | refine ag tk0 bB (ab fun Y hY => aa ?_) | refine aa ?_ | refine aH ?_);(try clear hK' K');(try dsimp only [aop]);try simp only [go_sem,↓reduceIte,Nat.reduceEqDiff,Nat.reduceLT,Nat.reduceLeDiff,Nat.reduceAdd,Nat.reduceSub,Nat.reduceMul,Nat.reduceBEq,Nat.reduceBNe,Nat.reducePow,Int.reduceToNat,Int.reduceLE,Int.reduceLT,Int.reduceMul,Int.reduceEq,Int.reducePow,Int.reduceAdd,Int.reduceSub,Int.reduceNeg,reduceCtorEq,bB,Tryz.results37,hlt']) | (with_reducible first | refine aI ?_ | refine aP ?_ | refine aS ?_ | refine bi fun K hK => ?_ | refine aC ?_ | refine aO ?_ | refine ax ?_ | refine aL ?_ | refine ar ?_) | (with_reducible refine hK _ ?_;clear hK K) | ((with_reducible refine ai ?_ ?_);(· decide)))
end Go.Proofs.YtmpdocplcgbpkaaGreatDoor
