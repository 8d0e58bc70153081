/- What a lemma's opposites say, the document's way, in K. What a lemma's opposites say, the code's way, in K. What a lemma's opposites say, the code's way, in K: cert.Premises. A certificate checked, in K: cert.lemma, cert.Check. -/
import Derived.Test.YtmpdocplcgbpkaaGreatDoorZ15
import Derived.Test.YtmpdocplcgbpkaaGreatDoorZ17
import Derived.Test.YtmpdocplcgbpkaaGreatDoorZ10
import Derived.Test.YtmpdocplcgbpkaaGreatDoorZ18
import Derived.Test.YtmpdocplcgbpkaaGreatDoorZ25
import Derived.Test.YtmpdocplcgbpkaaGreatDoorZ26
namespace Go.Proofs.YtmpdocplcgbpkaaGreatDoor
set_option linter.unusedSimpArgs false
set_option linter.unusedVariables false
open Go.RowKit
abbrev zsA (zs : List Int) : AV := .sl (zs.map inA) zs.length .none
theorem zK {zs : List Int} {k : Nat} (h : k < zs.length) : (zs.map inA).getD k .u = inA zs[k] := by simp [List.getD_eq_getElem?_getD,h]
def mf (q : Nat × List Ln) (e : AV) : AV := .tup [if q.1 = 0 then gm q.2 else .sl [] 0 .full,e]
theorem w6 (l : List Ln) (e : AV) : mf (0,l) e = .tup [gm l,e] := rfl
theorem w7 {n : Nat} (h : n ≠ 0) (l : List Ln) (e : AV) : mf (n,l) e = .tup [.sl [] 0 .full,e] := by unfold mf;rw [if_neg h]
theorem pm (a : List Ln) (l : Ln) : (a ++ [l]).flatMap lnA = a.flatMap lnA ++ [inA l.c,.sl (bn l.t) l.t.length .none] := by rw [List.flatMap_append];simp
theorem qY (ls : List Ln) {zs : List Int} {k : Nat} (h : k < zs.length) (out : List Ln) : g7 ls (zs.drop k) out = if (jw ls zs[k]).1 = 0 then g7 ls (zs.drop (k + 1)) (out ++ [(jw ls zs[k]).2]) else ((jw ls zs[k]).1,[]) := by
 rw [List.drop_eq_getElem_cons h];rfl
end Go.Proofs.YtmpdocplcgbpkaaGreatDoor
namespace Go.Proofs.YtmpdocplcgbpkaaGreatDoor
set_option linter.unusedSimpArgs false
set_option linter.unusedVariables false
open Go.RowKit
def bv : Nat → List Nat
 | 0 => [0,1]
 | 1 => [0,1]
 | 2 => [0,1,7,8]
 | 3 => [0,1,7,8]
 | 4 => [0,1,5,7,8]
 | 5 => [5]
 | 6 => [0,1,7,8]
 | 7 => []
 | _ => []
def cI : Nat → List Nat
 | 0 => [0,1]
 | 1 => [0,1]
 | _ => []
set_option maxRecDepth 100000 in
set_option maxHeartbeats 8000000 in
theorem wj (l : List Ln) (F : Nat) (p : Ln → Bool) (hF : bx Tryz.prog F = true) (hl : Lg l) (h : ∀ y ∈ l,AFn Tryz.prog F [.agg (lnA y)] [] (.c (.bool (p y))) []) :
  AFn Tryz.prog 106 [gm l,.fn (.func F) [] []] [] (inA (fiP p l)) [] := by
 unfold Lg at hl
 refine bm [] Tryz.func106 rfl Tryz.ntmps106 (Nat.le_of_ble_eq_true rfl) (Nat.le_of_ble_eq_true rfl) fun w0 G0 B0 Pr hB0 => ?_
 simp only [bD,bj,List.cons_append,List.nil_append]
 repeat' (first | (with_reducible refine hY _ ?_;clear hY Y) | ((with_reducible first | refine aX rfl (aR fun K' hK' => aa ?_) | refine hK' _ (ab fun Y hY => aa ?_) | refine ag tk0 bv (ab fun Y hY => aa ?_));(try clear hK' K');(try dsimp only [aop]);try simp only [go_sem,↓reduceIte,Nat.reduceEqDiff,Nat.reduceLT,Nat.reduceLeDiff,Nat.reduceAdd,Nat.reduceSub,Nat.reduceMul,Nat.reduceBEq,Nat.reduceBNe,Nat.reducePow,Int.reduceToNat,Int.reduceLE,Int.reduceLT,Int.reduceMul,Int.reduceEq,Int.reducePow,Int.reduceAdd,Int.reduceSub,Int.reduceNeg,reduceCtorEq,bv,Tryz.results106]) | (with_reducible first | refine aI ?_ | refine aP ?_ | refine aS ?_ | refine bi fun K hK => ?_ | refine ah ?_ | refine au ?_) | (with_reducible refine hK _ ?_;clear hK K))
 refine b7 (α := Nat) (fun k => [(0,gm l),(1,.fn (.func F) [] []),(7,inA (l.length : Int)),(8,inA (k : Int))])
  (fun k => k ≤ l.length ∧ ∀ j (hj : j < l.length),j < k → p l[j] = false) (fun k => l.length - k) 0 [0,1,7,8] ?_ ⟨Nat.zero_le _,fun j _ hj => absurd hj (Nat.not_lt_zero _)⟩ ?_
 ·simp only [go_sem,↓reduceIte,Nat.reduceEqDiff,Nat.reduceLT,Nat.reduceLeDiff,Nat.reduceAdd,Nat.reduceSub,Nat.reduceMul,Nat.reduceBEq,Nat.reduceBNe,Nat.reducePow,Int.reduceToNat,Int.reduceLE,Int.reduceLT,Int.reduceMul,Int.reduceEq,Int.reducePow,Int.reduceAdd,Int.reduceSub,Int.reduceNeg,reduceCtorEq] <;> rfl
 rintro k ⟨hk,hall⟩ ih
 by_cases hlt : k < l.length
 ·have hlt' : ((k : Int) < (l.length : Int)) = True := eq_true (by omega)
  have hkw := cC (n := k) (by omega)
  have h1 := h l[k] (List.getElem_mem hlt)
  have hg0 := i4 hlt
  have hfl := eo l
  have hfi := kU (p := p) hlt hall
  have hnx : p l[k] = false → ∀ j (hj : j < l.length),j < k + 1 → p l[j] = false := fun e j hj hjk => by
   by_cases hj2 : j < k
   ·exact hall j hj hj2
   ·have : j = k := by omega
    subst this;exact e
  generalize l[k] = t at *
  generalize hp : p t = b at *
  cases b with
  | true =>
   rw [hfi rfl]
   clear ih hfi hnx hall h
   repeat' (first | (with_reducible refine hY _ ?_;clear hY Y) | ((with_reducible first | refine aX rfl (aR fun K' hK' => aa ?_) | refine hK' _ (ab fun Y hY => aa ?_) | refine ab fun Y hY => aa ?_ | refine ag tk0 bv (ab fun Y hY => aa ?_) | refine aa ?_ | refine aH ?_);(try clear hK' K');(try dsimp only [aop]);try simp only [go_sem,↓reduceIte,Nat.reduceEqDiff,Nat.reduceLT,Nat.reduceLeDiff,Nat.reduceAdd,Nat.reduceSub,Nat.reduceMul,Nat.reduceBEq,Nat.reduceBNe,Nat.reducePow,Int.reduceToNat,Int.reduceLE,Int.reduceLT,Int.reduceMul,Int.reduceEq,Int.reducePow,Int.reduceAdd,Int.reduceSub,Int.reduceNeg,reduceCtorEq,bv,Tryz.results106,hlt',hfl,hg0,hkw,hF]) | (with_reducible first | refine aI ?_ | refine aP ?_ | refine aS ?_ | refine bi fun K hK => ?_ | refine aD ?_ | refine aQ ?_ | refine aA ?_ | refine ah ?_ | refine av ?_ | refine aL ?_) | (with_reducible refine hK _ ?_;clear hK K) | ((with_reducible refine ai ?_ ?_);(· decide)) | (with_reducible refine aV ?_ ?_;(· (try and_intros) <;> first | omega | assumption | (simp only [List.length_append,List.length_map,List.length_cons,List.length_nil] <;> omega))) | (with_reducible refine aK (h1) ?_))
  | false =>
   clear hfi
   repeat' (first | (with_reducible refine hY _ ?_;clear hY Y) | ((with_reducible first | refine aX rfl (aR fun K' hK' => aa ?_) | refine hK' _ (ab fun Y hY => aa ?_) | refine ab fun Y hY => aa ?_ | refine ag tk0 bv (ab fun Y hY => aa ?_) | refine aa ?_);(try clear hK' K');(try dsimp only [aop]);try simp only [go_sem,↓reduceIte,Nat.reduceEqDiff,Nat.reduceLT,Nat.reduceLeDiff,Nat.reduceAdd,Nat.reduceSub,Nat.reduceMul,Nat.reduceBEq,Nat.reduceBNe,Nat.reducePow,Int.reduceToNat,Int.reduceLE,Int.reduceLT,Int.reduceMul,Int.reduceEq,Int.reducePow,Int.reduceAdd,Int.reduceSub,Int.reduceNeg,reduceCtorEq,bv,Tryz.results106,hlt',hfl,hg0,hkw,hF]) | (with_reducible first | refine aI ?_ | refine aP ?_ | refine aS ?_ | refine bi fun K hK => ?_ | refine aD ?_ | refine aC ?_ | refine ay ?_ | refine ah ?_ | refine av ?_) | (with_reducible refine hK _ ?_;clear hK K) | ((with_reducible refine ai ?_ ?_);(· decide)) | (with_reducible refine aV ?_ ?_;(· (try and_intros) <;> first | omega | assumption | (simp only [List.length_append,List.length_map,List.length_cons,List.length_nil] <;> omega))) | (with_reducible refine aK (h1) ?_))
   refine bO [0,1,7,8] (by simp only [go_sem,↓reduceIte,Nat.reduceEqDiff,Nat.reduceLT,Nat.reduceLeDiff,Nat.reduceAdd,Nat.reduceSub,Nat.reduceMul,Nat.reduceBEq,Nat.reduceBNe,Nat.reducePow,Int.reduceToNat,Int.reduceLE,Int.reduceLT,Int.reduceMul,Int.reduceEq,Int.reducePow,Int.reduceAdd,Int.reduceSub,Int.reduceNeg,reduceCtorEq];exact rfl) ?_
   exact ih (k + 1) ⟨by omega,hnx rfl⟩ (by omega)
 ·have hlt' : ((k : Int) < (l.length : Int)) = False := eq_false (by omega)
  rw [kV fun j hj => hall j hj (by omega)]
  clear ih h hall
  repeat' (first | (with_reducible refine hY _ ?_;clear hY Y) | ((with_reducible first | refine aX rfl (aR fun K' hK' => aa ?_) | refine hK' _ (ab fun Y hY => aa ?_) | refine ab fun Y hY => aa ?_ | refine ag tk0 bv (ab fun Y hY => aa ?_) | refine aa ?_ | refine aH ?_);(try clear hK' K');(try dsimp only [aop]);try simp only [go_sem,↓reduceIte,Nat.reduceEqDiff,Nat.reduceLT,Nat.reduceLeDiff,Nat.reduceAdd,Nat.reduceSub,Nat.reduceMul,Nat.reduceBEq,Nat.reduceBNe,Nat.reducePow,Int.reduceToNat,Int.reduceLE,Int.reduceLT,Int.reduceMul,Int.reduceEq,Int.reducePow,Int.reduceAdd,Int.reduceSub,Int.reduceNeg,reduceCtorEq,bv,Tryz.results106,hlt']) | (with_reducible first | refine aI ?_ | refine aP ?_ | refine aS ?_ | refine bi fun K hK => ?_ | refine aC ?_ | refine aO ?_ | refine ax ?_ | refine aL ?_ | refine ar ?_) | (with_reducible refine hK _ ?_;clear hK K) | ((with_reducible refine ai ?_ ?_);(· decide)))
set_option maxRecDepth 100000 in
theorem wg (l : List Ln) (F : Nat) (p : Ln → Bool) (hF : bx Tryz.prog F = true) (hl : Lg l) (h : ∀ y ∈ l,AFn Tryz.prog F [.agg (lnA y)] [] (.c (.bool (p y))) []) :
  AFn Tryz.prog 76 [gm l,.fn (.func F) [] []] [] (.c (.bool (l.any p))) [] := by
 have h1 := wj l F p hF hl h
 have h2 : decide (0 ≤ fiP p l) = l.any p := jI p l
 refine bm [] Tryz.func76 rfl Tryz.ntmps76 (Nat.le_of_ble_eq_true rfl) (Nat.le_of_ble_eq_true rfl) fun w0 G0 B0 Pr hB0 => ?_
 simp only [bD,bj,List.cons_append,List.nil_append]
 repeat' (first | (with_reducible refine hY _ ?_;clear hY Y) | ((with_reducible first | refine aX rfl (aR fun K' hK' => aa ?_) | refine hK' _ (ab fun Y hY => aa ?_) | refine ag tk0 cI (ab fun Y hY => aa ?_) | refine aa ?_ | refine aH ?_);(try clear hK' K');(try dsimp only [aop]);try simp only [go_sem,↓reduceIte,Nat.reduceEqDiff,Nat.reduceLT,Nat.reduceLeDiff,Nat.reduceAdd,Nat.reduceSub,Nat.reduceMul,Nat.reduceBEq,Nat.reduceBNe,Nat.reducePow,Int.reduceToNat,Int.reduceLE,Int.reduceLT,Int.reduceMul,Int.reduceEq,Int.reducePow,Int.reduceAdd,Int.reduceSub,Int.reduceNeg,reduceCtorEq,cI,Tryz.results76,h2]) | (with_reducible first | refine aI ?_ | refine aP ?_ | refine aS ?_ | refine bi fun K hK => ?_ | refine aL ?_) | (with_reducible refine hK _ ?_;clear hK K) | (with_reducible refine aK (h1) ?_))
def cT : Nat → List Nat
 | 0 => [0]
 | 1 => [1]
 | _ => []
def b8 : Nat → List Nat
 | 0 => [0,1]
 | 1 => [0,1]
 | _ => []
theorem pz : bx Tryz.prog 77 = true := by kernel_rfl
theorem pA : bx Tryz.prog 79 = true := by kernel_rfl
set_option maxRecDepth 100000 in
theorem w4 (l : Ln) : AFn Tryz.prog 77 [.agg (lnA l)] [] (.c (.bool (!dg l))) [] := by
 have hck := ew l
 unfold iw at hck
 cases hb : dg l with
 | true =>
  rw [hb,if_pos rfl,dh] at hck
  clear hb
  refine bm [] Tryz.func77 rfl Tryz.ntmps77 (Nat.le_of_ble_eq_true rfl) (Nat.le_of_ble_eq_true rfl) fun w0 G0 B0 Pr hB0 => ?_
  simp only [bD,bj,List.cons_append,List.nil_append]
  repeat' (first | (with_reducible refine hY _ ?_;clear hY Y) | ((with_reducible first | refine aX rfl (aR fun K' hK' => aa ?_) | refine hK' _ (ab fun Y hY => aa ?_) | refine ag tk0 cT (ab fun Y hY => aa ?_) | refine aa ?_ | refine aH ?_);(try clear hK' K');(try dsimp only [aop]);try simp only [go_sem,↓reduceIte,Nat.reduceEqDiff,Nat.reduceLT,Nat.reduceLeDiff,Nat.reduceAdd,Nat.reduceSub,Nat.reduceMul,Nat.reduceBEq,Nat.reduceBNe,Nat.reducePow,Int.reduceToNat,Int.reduceLE,Int.reduceLT,Int.reduceMul,Int.reduceEq,Int.reducePow,Int.reduceAdd,Int.reduceSub,Int.reduceNeg,reduceCtorEq,cT,Tryz.results77]) | (with_reducible first | refine aI ?_ | refine aP ?_ | refine aS ?_ | refine bi fun K hK => ?_ | refine aL ?_) | (with_reducible refine hK _ ?_;clear hK K) | (with_reducible refine aK (hck) ?_) | (with_reducible refine ce (cu) ?_))
 | false =>
  rw [hb,if_neg (by decide),dF] at hck
  clear hb
  refine bm [] Tryz.func77 rfl Tryz.ntmps77 (Nat.le_of_ble_eq_true rfl) (Nat.le_of_ble_eq_true rfl) fun w0 G0 B0 Pr hB0 => ?_
  simp only [bD,bj,List.cons_append,List.nil_append]
  repeat' (first | (with_reducible refine hY _ ?_;clear hY Y) | ((with_reducible first | refine aX rfl (aR fun K' hK' => aa ?_) | refine hK' _ (ab fun Y hY => aa ?_) | refine ag tk0 cT (ab fun Y hY => aa ?_) | refine aa ?_ | refine aH ?_);(try clear hK' K');(try dsimp only [aop]);try simp only [go_sem,↓reduceIte,Nat.reduceEqDiff,Nat.reduceLT,Nat.reduceLeDiff,Nat.reduceAdd,Nat.reduceSub,Nat.reduceMul,Nat.reduceBEq,Nat.reduceBNe,Nat.reducePow,Int.reduceToNat,Int.reduceLE,Int.reduceLT,Int.reduceMul,Int.reduceEq,Int.reducePow,Int.reduceAdd,Int.reduceSub,Int.reduceNeg,reduceCtorEq,cT,Tryz.results77]) | (with_reducible first | refine aI ?_ | refine aP ?_ | refine aS ?_ | refine bi fun K hK => ?_ | refine aL ?_) | (with_reducible refine hK _ ?_;clear hK K) | (with_reducible refine aK (hck) ?_))
set_option maxRecDepth 100000 in
set_option maxHeartbeats 8000000 in
theorem w5 (n : Nat) (z : Int) (hn : n ≤ 1000000) : AFn Tryz.prog 79 [inA z,.loc 20000 0] [.bc [inA (n : Int)] 3] (.c (.bool (lM n z))) [.bc [inA (n : Int)] 3] := by
 have hwn : IntKind.i64.wrap (0 - (n : Int)) = -(n : Int) := by rw [bQ (by omega) (by omega)];omega
 have hwn2 : IntKind.i64.wrap (-(n : Int)) = -(n : Int) := bQ (by omega) (by omega)
 unfold lM
 by_cases h1 : z = 0
 ·have h1' : (z = 0) = True := eq_true h1
  rw [decide_eq_true h1,Bool.true_or,Bool.true_or]
  refine bm [] Tryz.func79 rfl Tryz.ntmps79 (Nat.le_of_ble_eq_true rfl) (Nat.le_of_ble_eq_true rfl) fun w0 G0 B0 Pr hB0 => ?_
  simp only [bD,bj,List.cons_append,List.nil_append]
  repeat' (first | (with_reducible refine hY _ ?_;clear hY Y) | ((with_reducible first | refine aX rfl (aR fun K' hK' => aa ?_) | refine hK' _ (ab fun Y hY => aa ?_) | refine aW rfl (ab fun Y hY => aa ?_) | refine ab fun Y hY => aa ?_ | refine ag tk0 b8 (ab fun Y hY => aa ?_) | refine aa ?_ | refine aH ?_);(try clear hK' K');(try dsimp only [aop]);try simp only [go_sem,↓reduceIte,Nat.reduceEqDiff,Nat.reduceLT,Nat.reduceLeDiff,Nat.reduceAdd,Nat.reduceSub,Nat.reduceMul,Nat.reduceBEq,Nat.reduceBNe,Nat.reducePow,Int.reduceToNat,Int.reduceLE,Int.reduceLT,Int.reduceMul,Int.reduceEq,Int.reducePow,Int.reduceAdd,Int.reduceSub,Int.reduceNeg,reduceCtorEq,b8,Tryz.results79,h1']) | (with_reducible first | refine aI ?_ | refine am rfl ?_ | refine bg ?_ ?_ | refine aP ?_ | refine aS ?_ | refine bi fun K hK => ?_ | refine aL ?_) | (with_reducible refine hK _ ?_;clear hK K) | ((with_reducible refine aF ?_ ?_);(· decide)))
 have h1' : (z = 0) = False := eq_false h1
 rw [decide_eq_false h1,Bool.false_or]
 by_cases h2 : (n : Int) < z
 ·have h2' : ((n : Int) < z) = True := eq_true h2
  rw [decide_eq_true h2,Bool.true_or]
  refine bm [] Tryz.func79 rfl Tryz.ntmps79 (Nat.le_of_ble_eq_true rfl) (Nat.le_of_ble_eq_true rfl) fun w0 G0 B0 Pr hB0 => ?_
  simp only [bD,bj,List.cons_append,List.nil_append]
  repeat' (first | (with_reducible refine hY _ ?_;clear hY Y) | ((with_reducible first | refine aX rfl (aR fun K' hK' => aa ?_) | refine hK' _ (ab fun Y hY => aa ?_) | refine aW rfl (ab fun Y hY => aa ?_) | refine ab fun Y hY => aa ?_ | refine aR fun K' hK' => aa ?_ | refine ag tk0 b8 (ab fun Y hY => aa ?_) | refine aa ?_ | refine aH ?_);(try clear hK' K');(try dsimp only [aop]);try simp only [go_sem,↓reduceIte,Nat.reduceEqDiff,Nat.reduceLT,Nat.reduceLeDiff,Nat.reduceAdd,Nat.reduceSub,Nat.reduceMul,Nat.reduceBEq,Nat.reduceBNe,Nat.reducePow,Int.reduceToNat,Int.reduceLE,Int.reduceLT,Int.reduceMul,Int.reduceEq,Int.reducePow,Int.reduceAdd,Int.reduceSub,Int.reduceNeg,reduceCtorEq,b8,Tryz.results79,h1',h2']) | (with_reducible first | refine aI ?_ | refine am rfl ?_ | refine ao ?_ | refine bg ?_ ?_ | refine aP ?_ | refine aS ?_ | refine bi fun K hK => ?_ | refine aL ?_) | (with_reducible refine hK _ ?_;clear hK K) | ((with_reducible refine aF ?_ ?_);(· decide)))
 have h2' : ((n : Int) < z) = False := eq_false h2
 rw [decide_eq_false h2,Bool.false_or]
 by_cases h3 : z < -(n : Int)
 ·have h3' : (z < -(n : Int)) = True := eq_true h3
  rw [decide_eq_true h3]
  refine bm [] Tryz.func79 rfl Tryz.ntmps79 (Nat.le_of_ble_eq_true rfl) (Nat.le_of_ble_eq_true rfl) fun w0 G0 B0 Pr hB0 => ?_
  simp only [bD,bj,List.cons_append,List.nil_append]
  repeat' (first | (with_reducible refine hY _ ?_;clear hY Y) | ((with_reducible first | refine aX rfl (aR fun K' hK' => aa ?_) | refine hK' _ (ab fun Y hY => aa ?_) | refine aW rfl (ab fun Y hY => aa ?_) | refine ab fun Y hY => aa ?_ | refine aR fun K' hK' => aa ?_ | refine ag tk0 b8 (ab fun Y hY => aa ?_) | refine aa ?_ | refine aH ?_);(try clear hK' K');(try dsimp only [aop]);try simp only [go_sem,↓reduceIte,Nat.reduceEqDiff,Nat.reduceLT,Nat.reduceLeDiff,Nat.reduceAdd,Nat.reduceSub,Nat.reduceMul,Nat.reduceBEq,Nat.reduceBNe,Nat.reducePow,Int.reduceToNat,Int.reduceLE,Int.reduceLT,Int.reduceMul,Int.reduceEq,Int.reducePow,Int.reduceAdd,Int.reduceSub,Int.reduceNeg,reduceCtorEq,b8,Tryz.results79,h1',h2',h3',hwn,hwn2]) | (with_reducible first | refine aI ?_ | refine ao ?_ | refine aP ?_ | refine aS ?_ | refine bi fun K hK => ?_ | refine aL ?_) | (with_reducible refine hK _ ?_;clear hK K) | ((with_reducible refine aF ?_ ?_);(· decide)))
 ·have h3' : (z < -(n : Int)) = False := eq_false h3
  rw [decide_eq_false h3]
  refine bm [] Tryz.func79 rfl Tryz.ntmps79 (Nat.le_of_ble_eq_true rfl) (Nat.le_of_ble_eq_true rfl) fun w0 G0 B0 Pr hB0 => ?_
  simp only [bD,bj,List.cons_append,List.nil_append]
  repeat' (first | (with_reducible refine hY _ ?_;clear hY Y) | ((with_reducible first | refine aX rfl (aR fun K' hK' => aa ?_) | refine hK' _ (ab fun Y hY => aa ?_) | refine aW rfl (ab fun Y hY => aa ?_) | refine ab fun Y hY => aa ?_ | refine aR fun K' hK' => aa ?_ | refine ag tk0 b8 (ab fun Y hY => aa ?_) | refine aa ?_ | refine aH ?_);(try clear hK' K');(try dsimp only [aop]);try simp only [go_sem,↓reduceIte,Nat.reduceEqDiff,Nat.reduceLT,Nat.reduceLeDiff,Nat.reduceAdd,Nat.reduceSub,Nat.reduceMul,Nat.reduceBEq,Nat.reduceBNe,Nat.reducePow,Int.reduceToNat,Int.reduceLE,Int.reduceLT,Int.reduceMul,Int.reduceEq,Int.reducePow,Int.reduceAdd,Int.reduceSub,Int.reduceNeg,reduceCtorEq,b8,Tryz.results79,h1',h2',h3',hwn,hwn2]) | (with_reducible first | refine aI ?_ | refine ao ?_ | refine aP ?_ | refine aS ?_ | refine bi fun K hK => ?_ | refine aL ?_) | (with_reducible refine hK _ ?_;clear hK K) | ((with_reducible refine aF ?_ ?_);(· decide)))
theorem se : mf (5,[]) (cK ((5,[]) : Nat × List Ln).1) = .tup [.sl [] 0 .full,.ifc 50 (.c (.int .i64 5))] := rfl
theorem w9 : mf (3,[]) (cK ((3,[]) : Nat × List Ln).1) = .tup [.sl [] 0 .full,.ifc 50 (.c (.int .i64 3))] := rfl
theorem w8 (l : List Ln) : mf (0,l) (cK ((0,l) : Nat × List Ln).1) = .tup [.sl (l.flatMap lnA) l.length .none,.c .nilIface] := rfl
end Go.Proofs.YtmpdocplcgbpkaaGreatDoor
namespace Go.Proofs.YtmpdocplcgbpkaaGreatDoor
set_option linter.unusedSimpArgs false
set_option linter.unusedVariables false
open Go.RowKit
def bM : Nat → List Nat
 | 0 => [0,1]
 | 1 => [0,1]
 | 2 => [0,1,6]
 | 3 => []
 | 4 => [0,1]
 | 5 => [0,1,7]
 | 6 => [0,7,23,24,25]
 | 7 => [0,7,23,24,25]
 | 8 => [0,7,9,23,24,25]
 | 9 => [0,7,9,23,24,25]
 | 10 => [0,7,10,23,24,25]
 | 11 => [0,7,9,23,24,25]
 | 12 => [0,7,11,12,23,24,25]
 | 13 => []
 | 14 => [0,7,11,23,24,25]
 | 15 => [0,7,23,24,25]
 | 16 => [7]
 | _ => []
set_option maxRecDepth 100000 in
set_option maxHeartbeats 16000000 in
theorem qZ (ls : List Ln) (zs : List Int) (hl : ls.length ≤ 100000) (hz : zs.length ≤ 100000) (q : Nat × List Ln) (hq : q = g8 ls zs) :
  AFn Tryz.prog 39 [gm ls,zsA zs] [] (mf q (cK q.1)) [] := by
 have hh1 := wg ls 77 (fun l => !dg l) pz (by unfold Lg;omega) fun y _ => w4 y
 have hh2 := qE zs 79 (ls.length : Int) (lM ls.length) pA (by unfold Lg;omega) fun y _ => w5 ls.length y (by omega)
 have hp1 := pz
 have hp2 := pA
 unfold g8 at hq
 cases hA : ls.any (fun l => !dg l) with
 | true =>
  rw [hA] at hh1 hq
  obtain rfl : q = (5,[]) := hq
  rw [se]
  clear hA
  refine bm [] Tryz.func39 rfl Tryz.ntmps39 (Nat.le_of_ble_eq_true rfl) (Nat.le_of_ble_eq_true rfl) fun w0 G0 B0 Pr hB0 => ?_
  simp only [bD,bj,List.cons_append,List.nil_append]
  repeat' (first | (with_reducible refine hY _ ?_;clear hY Y) | ((with_reducible first | refine aX rfl (aR fun K' hK' => aa ?_) | refine hK' _ (ab fun Y hY => aa ?_) | refine aW rfl (ab fun Y hY => aa ?_) | refine ab fun Y hY => aa ?_ | refine ag tk0 bM (ab fun Y hY => aa ?_) | refine aa ?_ | refine aH ?_);(try clear hK' K');(try dsimp only [aop]);try simp only [go_sem,↓reduceIte,Nat.reduceEqDiff,Nat.reduceLT,Nat.reduceLeDiff,Nat.reduceAdd,Nat.reduceSub,Nat.reduceMul,Nat.reduceBEq,Nat.reduceBNe,Nat.reducePow,Int.reduceToNat,Int.reduceLE,Int.reduceLT,Int.reduceMul,Int.reduceEq,Int.reducePow,Int.reduceAdd,Int.reduceSub,Int.reduceNeg,reduceCtorEq,bM,Tryz.results39,hp1]) | (with_reducible first | refine aI ?_ | refine am rfl ?_ | refine bg ?_ ?_ | refine aP ?_ | refine aS ?_ | refine bi fun K hK => ?_ | refine aD ?_ | refine aQ ?_ | refine aL ?_) | (with_reducible refine hK _ ?_;clear hK K) | ((with_reducible first | refine aF ?_ ?_ | refine ai ?_ ?_);(· decide)) | (with_reducible refine aK (hh1) ?_))
 | false =>
 rw [hA,if_neg (by decide)] at hq
 rw [hA] at hh1
 cases hB : zs.any (lM ls.length) with
 | true =>
  rw [hB] at hh2 hq
  obtain rfl : q = (5,[]) := hq
  rw [se]
  clear hA hB
  refine bm [] Tryz.func39 rfl Tryz.ntmps39 (Nat.le_of_ble_eq_true rfl) (Nat.le_of_ble_eq_true rfl) fun w0 G0 B0 Pr hB0 => ?_
  simp only [bD,bj,List.cons_append,List.nil_append]
  repeat' (first | (with_reducible refine hY _ ?_;clear hY Y) | ((with_reducible first | refine aX rfl (aR fun K' hK' => aa ?_) | refine hK' _ (ab fun Y hY => aa ?_) | refine aW rfl (ab fun Y hY => aa ?_) | refine ab fun Y hY => aa ?_ | refine aR fun K' hK' => aa ?_ | refine ag tk0 bM (ab fun Y hY => aa ?_) | refine aa ?_ | refine aH ?_);(try clear hK' K');(try dsimp only [aop]);try simp only [go_sem,↓reduceIte,Nat.reduceEqDiff,Nat.reduceLT,Nat.reduceLeDiff,Nat.reduceAdd,Nat.reduceSub,Nat.reduceMul,Nat.reduceBEq,Nat.reduceBNe,Nat.reducePow,Int.reduceToNat,Int.reduceLE,Int.reduceLT,Int.reduceMul,Int.reduceEq,Int.reducePow,Int.reduceAdd,Int.reduceSub,Int.reduceNeg,reduceCtorEq,bM,Tryz.results39,hp1,hp2]) | (with_reducible first | refine aI ?_ | refine ao ?_ | refine aP ?_ | refine aS ?_ | refine bi fun K hK => ?_ | refine aD ?_ | refine aQ ?_ | refine aL ?_) | (with_reducible refine hK _ ?_;clear hK K) | ((with_reducible first | refine aF ?_ ?_ | refine ai ?_ ?_);(· decide)) | (with_reducible refine aK (hh1) ?_) | (with_reducible refine aK (hh2) ?_))
 | false =>
 rw [hB,if_neg (by decide)] at hq
 rw [hB] at hh2
 have hlin : ∀ l ∈ ls,dg l = true := fun l hl => by
  have := List.any_eq_false.1 hA l hl
  simpa using this
 have hbad : ∀ j (hj : j < zs.length),lM ls.length zs[j] = false := fun j hj => by
  have := List.any_eq_false.1 hB zs[j] (List.getElem_mem hj)
  simpa using this
 have hq2 : q = g7 ls (zs.drop 0) [] := hq
 clear hq hA hB
 refine bm [] Tryz.func39 rfl Tryz.ntmps39 (Nat.le_of_ble_eq_true rfl) (Nat.le_of_ble_eq_true rfl) fun w0 G0 B0 Pr hB0 => ?_
 simp only [bD,bj,List.cons_append,List.nil_append]
 repeat' (first | (with_reducible refine hY _ ?_;clear hY Y) | ((with_reducible first | refine aX rfl (aR fun K' hK' => aa ?_) | refine hK' _ (ab fun Y hY => aa ?_) | refine aW rfl (ab fun Y hY => aa ?_) | refine ab fun Y hY => aa ?_ | refine aR fun K' hK' => aa ?_ | refine ag tk0 bM (ab fun Y hY => aa ?_) | refine aa ?_);(try clear hK' K');(try dsimp only [aop]);try simp only [go_sem,↓reduceIte,Nat.reduceEqDiff,Nat.reduceLT,Nat.reduceLeDiff,Nat.reduceAdd,Nat.reduceSub,Nat.reduceMul,Nat.reduceBEq,Nat.reduceBNe,Nat.reducePow,Int.reduceToNat,Int.reduceLE,Int.reduceLT,Int.reduceMul,Int.reduceEq,Int.reducePow,Int.reduceAdd,Int.reduceSub,Int.reduceNeg,reduceCtorEq,bM,Tryz.results39,hp1,hp2]) | (with_reducible first | refine aI ?_ | refine ao ?_ | refine aP ?_ | refine aS ?_ | refine bi fun K hK => ?_ | refine aC ?_ | refine ah ?_ | refine av ?_ | refine au ?_) | (with_reducible refine hK _ ?_;clear hK K) | ((with_reducible first | refine aF ?_ ?_ | refine ai ?_ ?_);(· decide)) | (with_reducible refine aK (hh1) ?_) | (with_reducible refine aK (hh2) ?_))
 clear hh1 hh2 hp1 hp2
 refine d5 (gv (b := 10045) (t := 7) 24 (by decide) (by decide) rfl rfl) ?_
 refine b7 (α := Nat × List Ln) (fun a => [(0,gm ls),(7,.sl (a.2.flatMap lnA) a.1 (.tok 10045)),(23,zsA zs),(24,inA (zs.length : Int)),(25,inA (a.1 : Int)),(10045,.bt a.1 24)])
  (fun a => a.1 ≤ zs.length ∧ a.2.length = a.1 ∧ q = g7 ls (zs.drop a.1) a.2) (fun a => zs.length - a.1) (0,[]) [0,7,23,24,25] ?_ ⟨Nat.zero_le _,rfl,hq2⟩ ?_
 ·simp only [go_sem,↓reduceIte,Nat.reduceEqDiff,Nat.reduceLT,Nat.reduceLeDiff,Nat.reduceAdd,Nat.reduceSub,Nat.reduceMul,Nat.reduceBEq,Nat.reduceBNe,Nat.reducePow,Int.reduceToNat,Int.reduceLE,Int.reduceLT,Int.reduceMul,Int.reduceEq,Int.reducePow,Int.reduceAdd,Int.reduceSub,Int.reduceNeg,reduceCtorEq] <;> rfl
 clear hq2
 rintro ⟨k,out⟩ ⟨hk,hol,hqk⟩ ih
 simp only at hk hol hqk ih ⊢
 by_cases hlt : k < zs.length
 ·have hlt' : ((k : Int) < (zs.length : Int)) = True := eq_true (by omega)
  have hkw := cC (n := k) (by omega)
  have hg0 := zK hlt
  have hfl : (zs.map inA).length = zs.length := List.length_map ..
  have hfl2 := eo ls
  have hol2 : (out.flatMap lnA).length = k * 2 := by rw [eo,hol]
  obtain ⟨i,hi,hai,hiz⟩ := rD (hbad k hlt)
  have hli := hlin _ (List.getElem_mem hi)
  obtain ⟨⟨c1,c2⟩,h64,_⟩ := fi hli
  have hga := i4 hi
  have hil : ((i : Int) < (ls.length : Int)) = True := eq_true (by omega)
  have hz0 := (rE (hbad k hlt)).1
  rw [qY ls hlt] at hqk
  have ihx := fun o e1 e2 => ih (k + 1,o) ⟨by simp only;omega,e1,e2⟩ (by simp only;omega)
  clear ih
  by_cases hneg : zs[k] < 0
  ·have hneg' : (zs[k] < 0) = True := eq_true hneg
   rw [if_pos hneg] at hiz
   have hw1 : IntKind.i64.wrap (0 - zs[k]) = ((i + 1 : Nat) : Int) := by rw [bQ (by omega) (by omega)];omega
   have hw1' : IntKind.i64.wrap (-zs[k]) = ((i + 1 : Nat) : Int) := by rw [bQ (by omega) (by omega)];omega
   have hw2 : IntKind.i64.wrap (((i + 1 : Nat) : Int) - 1) = (i : Int) := by rw [bQ (by omega) (by omega)];omega
   have hcl := jX ls[i].t .none (.inl rfl) (by omega)
   have h1 : jw ls zs[k] = (0,ls[i]) := by unfold jw;rw [if_pos hneg,hai]
   rw [h1,if_pos rfl] at hqk
   have ih' := ihx (out ++ [ls[i]]) (by simp only [List.length_append,List.length_cons,List.length_nil];omega) hqk
   simp only [pm] at ih'
   clear ihx hqk hai h1 hbad hlin hli
   generalize zs[k] = z at *
   generalize ls[i] = l at *
   generalize out.flatMap lnA = O at *
   repeat' (first | (with_reducible refine hY _ ?_;clear hY Y) | ((with_reducible first | refine aX rfl (aR fun K' hK' => aa ?_) | refine hK' _ (ab fun Y hY => aa ?_) | refine ab fun Y hY => aa ?_ | refine ag tk0 bM (ab fun Y hY => aa ?_) | refine aa ?_ | refine aN rfl (ap fun K' hK' => aa ?_) | refine hK' _ _ (ab fun Y hY => aa ?_));(try clear hK' K');(try dsimp only [aop]);try simp only [go_sem,↓reduceIte,Nat.reduceEqDiff,Nat.reduceLT,Nat.reduceLeDiff,Nat.reduceAdd,Nat.reduceSub,Nat.reduceMul,Nat.reduceBEq,Nat.reduceBNe,Nat.reducePow,Int.reduceToNat,Int.reduceLE,Int.reduceLT,Int.reduceMul,Int.reduceEq,Int.reducePow,Int.reduceAdd,Int.reduceSub,Int.reduceNeg,reduceCtorEq,bM,Tryz.results39,hlt',hfl,hfl2,hg0,hga,hkw,hneg',hw1,hw1',hw2,hol2,hil]) | (with_reducible first | refine aI ?_ | refine aP ?_ | refine aS ?_ | refine bi fun K hK => ?_ | refine aD ?_ | refine aO ?_ | refine ax ?_ | refine ah ?_ | refine av ?_ | refine ar ?_ | refine aj ?_ | refine bh fun K hK => ?_) | (with_reducible refine hK _ ?_;clear hK K) | (with_reducible refine hK _ _ ?_ ?_;(· kernel_rfl);clear hK K) | ((with_reducible refine ai ?_ ?_);(· decide)) | (with_reducible refine aq tk0 bM ?_ ?_;(· kernel_rfl)) | (with_reducible refine aV ?_ ?_;(· (try and_intros) <;> first | omega | assumption | (simp only [List.length_append,List.length_map,List.length_cons,List.length_nil] <;> omega))) | (with_reducible refine aK (hcl) ?_))
   refine bO [0,7,23,24,25] (by simp only [go_sem,↓reduceIte,Nat.reduceEqDiff,Nat.reduceLT,Nat.reduceLeDiff,Nat.reduceAdd,Nat.reduceSub,Nat.reduceMul,Nat.reduceBEq,Nat.reduceBNe,Nat.reducePow,Int.reduceToNat,Int.reduceLE,Int.reduceLT,Int.reduceMul,Int.reduceEq,Int.reducePow,Int.reduceAdd,Int.reduceSub,Int.reduceNeg,reduceCtorEq];exact rfl) ?_
   exact ih'
  ·have hneg' : (zs[k] < 0) = False := eq_false hneg
   rw [if_neg hneg] at hiz
   have hw2 : IntKind.i64.wrap (zs[k] - 1) = (i : Int) := by rw [bQ (by omega) (by omega)];omega
   have had := tK ls[i] 1 1 (by decide) rfl hli
   cases hcc : dc (1 - ls[i].c) with
   | true =>
    have h1 : jw ls zs[k] = (0,⟨1 - ls[i].c,c4 (-1) ls[i].t⟩) := by unfold jw;rw [if_neg hneg,hai,if_pos hcc]
    rw [h1,if_pos rfl] at hqk
    have had' := had (0,⟨1 - ls[i].c,c4 (-1) ls[i].t⟩) (by rw [if_pos hcc])
    rw [iC] at had'
    have ih' := ihx (out ++ [⟨1 - ls[i].c,c4 (-1) ls[i].t⟩]) (by simp only [List.length_append,List.length_cons,List.length_nil];omega) hqk
    simp only [pm] at ih'
    clear ihx hqk hai h1 hbad hlin hli hcc had
    generalize zs[k] = z at *
    generalize ls[i] = l at *
    generalize out.flatMap lnA = O at *
    repeat' (first | (with_reducible refine hY _ ?_;clear hY Y) | ((with_reducible first | refine aX rfl (aR fun K' hK' => aa ?_) | refine hK' _ (ab fun Y hY => aa ?_) | refine ab fun Y hY => aa ?_ | refine ag tk0 bM (ab fun Y hY => aa ?_) | refine aa ?_);(try clear hK' K');(try dsimp only [aop]);try simp only [go_sem,↓reduceIte,Nat.reduceEqDiff,Nat.reduceLT,Nat.reduceLeDiff,Nat.reduceAdd,Nat.reduceSub,Nat.reduceMul,Nat.reduceBEq,Nat.reduceBNe,Nat.reducePow,Int.reduceToNat,Int.reduceLE,Int.reduceLT,Int.reduceMul,Int.reduceEq,Int.reducePow,Int.reduceAdd,Int.reduceSub,Int.reduceNeg,reduceCtorEq,bM,Tryz.results39,hlt',hfl,hfl2,hg0,hga,hkw,hneg',hw2,hol2,hil]) | (with_reducible first | refine aI ?_ | refine aP ?_ | refine aS ?_ | refine bi fun K hK => ?_ | refine aD ?_ | refine aC ?_ | refine ay ?_ | refine ah ?_ | refine av ?_) | (with_reducible refine hK _ ?_;clear hK K) | ((with_reducible refine ai ?_ ?_);(· decide)) | (with_reducible refine aV ?_ ?_;(· (try and_intros) <;> first | omega | assumption | (simp only [List.length_append,List.length_map,List.length_cons,List.length_nil] <;> omega))) | (with_reducible refine aK (had') ?_) | (with_reducible refine ce (cu) ?_))
    refine bO [0,7,23,24,25] (by simp only [go_sem,↓reduceIte,Nat.reduceEqDiff,Nat.reduceLT,Nat.reduceLeDiff,Nat.reduceAdd,Nat.reduceSub,Nat.reduceMul,Nat.reduceBEq,Nat.reduceBNe,Nat.reducePow,Int.reduceToNat,Int.reduceLE,Int.reduceLT,Int.reduceMul,Int.reduceEq,Int.reducePow,Int.reduceAdd,Int.reduceSub,Int.reduceNeg,reduceCtorEq];exact rfl) ?_
    exact ih'
   | false =>
    have h1 : jw ls zs[k] = (3,⟨0,[]⟩) := by unfold jw;rw [if_neg hneg,hai,if_neg (by rw [hcc];decide)]
    rw [h1,if_neg (by decide)] at hqk
    subst hqk
    rw [w9]
    have had' := had (3,⟨0,[]⟩) (by rw [hcc];rfl)
    rw [jO] at had'
    clear ihx hai h1 hbad hlin hli hcc had
    generalize zs[k] = z at *
    generalize ls[i] = l at *
    generalize out.flatMap lnA = O at *
    repeat' (first | (with_reducible refine hY _ ?_;clear hY Y) | ((with_reducible first | refine aX rfl (aR fun K' hK' => aa ?_) | refine hK' _ (ab fun Y hY => aa ?_) | refine ab fun Y hY => aa ?_ | refine ag tk0 bM (ab fun Y hY => aa ?_) | refine aa ?_ | refine aH ?_);(try clear hK' K');(try dsimp only [aop]);try simp only [go_sem,↓reduceIte,Nat.reduceEqDiff,Nat.reduceLT,Nat.reduceLeDiff,Nat.reduceAdd,Nat.reduceSub,Nat.reduceMul,Nat.reduceBEq,Nat.reduceBNe,Nat.reducePow,Int.reduceToNat,Int.reduceLE,Int.reduceLT,Int.reduceMul,Int.reduceEq,Int.reducePow,Int.reduceAdd,Int.reduceSub,Int.reduceNeg,reduceCtorEq,bM,Tryz.results39,hlt',hfl,hfl2,hg0,hga,hkw,hneg',hw2,hol2,hil]) | (with_reducible first | refine aI ?_ | refine aP ?_ | refine aS ?_ | refine bi fun K hK => ?_ | refine aD ?_ | refine aC ?_ | refine aQ ?_ | refine aA ?_ | refine ah ?_ | refine av ?_ | refine aL ?_) | (with_reducible refine hK _ ?_;clear hK K) | ((with_reducible refine ai ?_ ?_);(· decide)) | (with_reducible refine aV ?_ ?_;(· (try and_intros) <;> first | omega | assumption | (simp only [List.length_append,List.length_map,List.length_cons,List.length_nil] <;> omega))) | (with_reducible refine aK (had') ?_))
 ·have hlt' : ((k : Int) < (zs.length : Int)) = False := eq_false (by omega)
  obtain rfl : q = (0,out) := by rw [hqk,List.drop_eq_nil_of_le (by omega)];rfl
  rw [w8]
  clear ih hqk hbad hlin
  rw [← hol]
  repeat' (first | (with_reducible refine hY _ ?_;clear hY Y) | ((with_reducible first | refine aX rfl (aR fun K' hK' => aa ?_) | refine hK' _ (ab fun Y hY => aa ?_) | refine ab fun Y hY => aa ?_ | refine ag tk0 bM (ab fun Y hY => aa ?_) | refine aa ?_ | refine aH ?_);(try clear hK' K');(try dsimp only [aop]);try simp only [go_sem,↓reduceIte,Nat.reduceEqDiff,Nat.reduceLT,Nat.reduceLeDiff,Nat.reduceAdd,Nat.reduceSub,Nat.reduceMul,Nat.reduceBEq,Nat.reduceBNe,Nat.reducePow,Int.reduceToNat,Int.reduceLE,Int.reduceLT,Int.reduceMul,Int.reduceEq,Int.reducePow,Int.reduceAdd,Int.reduceSub,Int.reduceNeg,reduceCtorEq,bM,Tryz.results39,hlt']) | (with_reducible first | refine aI ?_ | refine aP ?_ | refine aS ?_ | refine bi fun K hK => ?_ | refine aO ?_ | refine ax ?_ | refine aL ?_ | refine ar ?_) | (with_reducible refine hK _ ?_;clear hK K) | ((with_reducible refine ai ?_ ?_);(· decide)) | ((with_reducible refine aB (fun hc => ?_) (fun hc => ?_)) <;> (try simp only [decide_eq_true_eq,decide_eq_false_iff_not,Bool.not_true,Bool.not_false,Bool.not_eq_true',Bool.not_eq_false'] at hc) <;> (try (exfalso;omega))))
end Go.Proofs.YtmpdocplcgbpkaaGreatDoor
namespace Go.Proofs.YtmpdocplcgbpkaaGreatDoor
set_option linter.unusedSimpArgs false
set_option linter.unusedVariables false
open Go.RowKit
abbrev gJ (l : Lem) : List AV := [di l.lits,jD l.steps]
abbrev gV (ls : List Lem) : AV := .sl (ls.flatMap gJ) ls.length .none
theorem kd (ls : List Lem) : (ls.flatMap gJ).length = ls.length * 2 := kC (f := gJ) (k := 2) (fun _ => rfl) ls
theorem wO {ls : List Lem} {i : Nat} (h : i < ls.length) : ((ls.flatMap gJ).drop (i * 2)).take 2 = [di ls[i].lits,jD ls[i].steps] := kX (f := gJ) (fun _ => rfl) h
def cz : Nat → List Nat
 | 0 => [0,1]
 | 1 => [0,3]
 | 2 => [3,5,6]
 | 3 => [3,5]
 | 4 => [6]
 | 5 => [6,7]
 | 6 => [7]
 | 7 => [6]
 | _ => []
set_option maxRecDepth 100000 in
set_option maxHeartbeats 16000000 in
theorem wN (ls : List Ln) (l : Lem) (hl : ls.length ≤ 100000) (hz : l.lits.length ≤ 100000) (hss : oM l.steps) :
  AFn Tryz.prog 19 [gm ls,.agg (gJ l)] [] (cK (qO ls l)) [] := by
 obtain ⟨zs,ss⟩ := l
 simp only at hz hss
 have hp := qZ ls zs hl hz _ rfl
 have hok := xa (ls := ls) hz
 unfold qO
 simp only
 generalize g8 ls zs = q at *
 obtain ⟨e,ps⟩ := q
 simp only at hp hok ⊢
 have hr := td ps ss hok hss
 by_cases he : e = 0
 ·subst he
  rw [if_neg (by decide)]
  rw [w6,dh] at hp
  generalize i9 ps ss = r at *
  obtain ⟨e2,z⟩ := r
  simp only at hr ⊢
  unfold er at hr
  split at hr
  ·have has := oQ e2
   by_cases h2 : e2 = 0
   ·subst h2
    rw [dh] at hr has ⊢
    refine bm [] Tryz.func19 rfl Tryz.ntmps19 (Nat.le_of_ble_eq_true rfl) (Nat.le_of_ble_eq_true rfl) fun w0 G0 B0 Pr hB0 => ?_
    simp only [bD,bj,List.cons_append,List.nil_append]
    repeat' (first | (with_reducible refine hY _ ?_;clear hY Y) | ((with_reducible first | refine aX rfl (aR fun K' hK' => aa ?_) | refine hK' _ (ab fun Y hY => aa ?_) | refine ab fun Y hY => aa ?_ | refine ag tk0 cz (ab fun Y hY => aa ?_) | refine aa ?_ | refine aH ?_);(try clear hK' K');(try dsimp only [aop]);try simp only [go_sem,↓reduceIte,Nat.reduceEqDiff,Nat.reduceLT,Nat.reduceLeDiff,Nat.reduceAdd,Nat.reduceSub,Nat.reduceMul,Nat.reduceBEq,Nat.reduceBNe,Nat.reducePow,Int.reduceToNat,Int.reduceLE,Int.reduceLT,Int.reduceMul,Int.reduceEq,Int.reducePow,Int.reduceAdd,Int.reduceSub,Int.reduceNeg,reduceCtorEq,cz,Tryz.results19]) | (with_reducible first | refine aI ?_ | refine aP ?_ | refine aS ?_ | refine bi fun K hK => ?_ | refine aD ?_ | refine aC ?_ | refine av ?_ | refine aL ?_) | (with_reducible refine hK _ ?_;clear hK K) | ((with_reducible refine ai ?_ ?_);(· decide)) | (with_reducible refine aK (hp) ?_) | (with_reducible refine aK (hr) ?_) | (with_reducible refine ce (d6) ?_) | (with_reducible refine aK (has) ?_))
   ·rw [de h2] at hr has ⊢
    refine bm [] Tryz.func19 rfl Tryz.ntmps19 (Nat.le_of_ble_eq_true rfl) (Nat.le_of_ble_eq_true rfl) fun w0 G0 B0 Pr hB0 => ?_
    simp only [bD,bj,List.cons_append,List.nil_append]
    repeat' (first | (with_reducible refine hY _ ?_;clear hY Y) | ((with_reducible first | refine aX rfl (aR fun K' hK' => aa ?_) | refine hK' _ (ab fun Y hY => aa ?_) | refine ab fun Y hY => aa ?_ | refine ag tk0 cz (ab fun Y hY => aa ?_) | refine aa ?_ | refine aH ?_);(try clear hK' K');(try dsimp only [aop]);try simp only [go_sem,↓reduceIte,Nat.reduceEqDiff,Nat.reduceLT,Nat.reduceLeDiff,Nat.reduceAdd,Nat.reduceSub,Nat.reduceMul,Nat.reduceBEq,Nat.reduceBNe,Nat.reducePow,Int.reduceToNat,Int.reduceLE,Int.reduceLT,Int.reduceMul,Int.reduceEq,Int.reducePow,Int.reduceAdd,Int.reduceSub,Int.reduceNeg,reduceCtorEq,cz,Tryz.results19]) | (with_reducible first | refine aI ?_ | refine aP ?_ | refine aS ?_ | refine bi fun K hK => ?_ | refine aD ?_ | refine aC ?_ | refine av ?_ | refine aL ?_) | (with_reducible refine hK _ ?_;clear hK K) | ((with_reducible refine ai ?_ ?_);(· decide)) | (with_reducible refine aK (hp) ?_) | (with_reducible refine aK (hr) ?_) | (with_reducible refine ce (d6) ?_) | (with_reducible refine aK (has) ?_))
  ·rename_i h2
   have h2' : e2 ≠ 0 := fun h => h2 (.inr h)
   have has := tO z e2
   unfold hI at hr has
   rw [de h2'] at hr has ⊢
   refine bm [] Tryz.func19 rfl Tryz.ntmps19 (Nat.le_of_ble_eq_true rfl) (Nat.le_of_ble_eq_true rfl) fun w0 G0 B0 Pr hB0 => ?_
   simp only [bD,bj,List.cons_append,List.nil_append]
   repeat' (first | (with_reducible refine hY _ ?_;clear hY Y) | ((with_reducible first | refine aX rfl (aR fun K' hK' => aa ?_) | refine hK' _ (ab fun Y hY => aa ?_) | refine ab fun Y hY => aa ?_ | refine ag tk0 cz (ab fun Y hY => aa ?_) | refine aa ?_ | refine aH ?_);(try clear hK' K');(try dsimp only [aop]);try simp only [go_sem,↓reduceIte,Nat.reduceEqDiff,Nat.reduceLT,Nat.reduceLeDiff,Nat.reduceAdd,Nat.reduceSub,Nat.reduceMul,Nat.reduceBEq,Nat.reduceBNe,Nat.reducePow,Int.reduceToNat,Int.reduceLE,Int.reduceLT,Int.reduceMul,Int.reduceEq,Int.reducePow,Int.reduceAdd,Int.reduceSub,Int.reduceNeg,reduceCtorEq,cz,Tryz.results19]) | (with_reducible first | refine aI ?_ | refine aP ?_ | refine aS ?_ | refine bi fun K hK => ?_ | refine aD ?_ | refine aQ ?_ | refine aL ?_) | (with_reducible refine hK _ ?_;clear hK K) | ((with_reducible refine ai ?_ ?_);(· decide)) | (with_reducible refine aK (hp) ?_) | (with_reducible refine aK (hr) ?_) | (with_reducible refine ce (d6) ?_) | (with_reducible refine aK (has) ?_))
 ·rw [if_pos he]
  rw [w7 he] at hp
  have has := oQ e
  rw [de he] at hp has ⊢
  refine bm [] Tryz.func19 rfl Tryz.ntmps19 (Nat.le_of_ble_eq_true rfl) (Nat.le_of_ble_eq_true rfl) fun w0 G0 B0 Pr hB0 => ?_
  simp only [bD,bj,List.cons_append,List.nil_append]
  repeat' (first | (with_reducible refine hY _ ?_;clear hY Y) | ((with_reducible first | refine aX rfl (aR fun K' hK' => aa ?_) | refine hK' _ (ab fun Y hY => aa ?_) | refine ab fun Y hY => aa ?_ | refine ag tk0 cz (ab fun Y hY => aa ?_) | refine aa ?_ | refine aH ?_);(try clear hK' K');(try dsimp only [aop]);try simp only [go_sem,↓reduceIte,Nat.reduceEqDiff,Nat.reduceLT,Nat.reduceLeDiff,Nat.reduceAdd,Nat.reduceSub,Nat.reduceMul,Nat.reduceBEq,Nat.reduceBNe,Nat.reducePow,Int.reduceToNat,Int.reduceLE,Int.reduceLT,Int.reduceMul,Int.reduceEq,Int.reducePow,Int.reduceAdd,Int.reduceSub,Int.reduceNeg,reduceCtorEq,cz,Tryz.results19]) | (with_reducible first | refine aI ?_ | refine aP ?_ | refine aS ?_ | refine bi fun K hK => ?_ | refine aC ?_ | refine av ?_ | refine aL ?_) | (with_reducible refine hK _ ?_;clear hK K) | ((with_reducible refine ai ?_ ?_);(· decide)) | (with_reducible refine aK (hp) ?_) | (with_reducible refine aK (has) ?_))
end Go.Proofs.YtmpdocplcgbpkaaGreatDoor
