/- The document's Same of a form and itself, in K. lin.Same in K, of whatever two forms. Clauses in K: atoms are gathered. Clauses in K: gather. -/
import Derived.Test.YtmpdocplcgbpkaaGreatDoorZ9
import Derived.Laws.StructEq
import Derived.Test.YtmpdocplcgbpkaaGreatDoorZ10
import Derived.Test.YtmpdocplcgbpkaaGreatDoorZ7
namespace Go.Proofs.YtmpdocplcgbpkaaGreatDoor
set_option linter.unusedSimpArgs false
set_option linter.unusedVariables false
open Go.RowKit
set_option maxRecDepth 100000 in
theorem pq (p q : Operand) (v x : Int) : ∀ w,((eqGuard .neq 94 p q (.agg #[.int .i64 v,.int .i64 x]) (.agg #[.int .i64 v,.int .i64 x]) >>= fun _ => binOp .neq 94 (.agg #[.int .i64 v,.int .i64 x]) (.agg #[.int .i64 v,.int .i64 x])) : Sem Value).run Tryz.prog w = .ok (.bool false) w := fun w => by
 have u3 := Tryz.underlying3
 have a3 := Tryz.isAgg3
 have z3 := Tryz.sizeOf3
 have hS : Tryz.prog.underlying 94 = some (.struct (Tryz.prog.fieldsOf 94)) := by kernel_rfl
 have hp : Tryz.prog.stoodInHeld 94 = false := by kernel_rfl
 have hm : Tryz.prog.eqGuardType Tryz.prog.depth 94 = false := by kernel_rfl
 rw [Sem.run_bind,run_eqGuard_agg w .neq _ p q _ _ hm]
 simp only [Result.andThen_ok]
 rw [run_neq_struct,show (10000 : Nat) = 9999 + 1 from rfl,run_equalIn_agg w 9999 _ _ _ hS hp]
 simp only [Program.fieldsOf,Tryz.underlying94]
 simp [go_sem,Op.eqFields,u3,a3,z3]
def cq : Nat → List Nat
 | 0 => [0,1]
 | 1 => [2,3]
 | 2 => []
 | 3 => [2,3]
 | 4 => [2,3,5]
 | 5 => [2,3,5]
 | 6 => [2,3,5]
 | 7 => []
 | 8 => []
 | _ => []
set_option maxRecDepth 100000 in
set_option maxHeartbeats 8000000 in
theorem xo (l : Ln) (hl : Lg l.t) : AFn Tryz.prog 27 [.agg (lnA l),.agg (lnA l)] [] (.c (.bool true)) [] := by
 obtain ⟨c,t⟩ := l
 unfold Lg at hl
 simp only at hl
 refine bm [] Tryz.func27 rfl Tryz.ntmps27 (Nat.le_of_ble_eq_true rfl) (Nat.le_of_ble_eq_true rfl) fun w0 G0 B0 Pr hB0 => ?_
 simp only [bD,bj,List.cons_append,List.nil_append]
 repeat' (first | (with_reducible refine hY _ ?_;clear hY Y) | ((with_reducible first | refine aX rfl (aR fun K' hK' => aa ?_) | refine hK' _ (ab fun Y hY => aa ?_) | refine aW rfl (ab fun Y hY => aa ?_) | refine ab fun Y hY => aa ?_ | refine aR fun K' hK' => aa ?_ | refine ag tk0 cq (ab fun Y hY => aa ?_));(try clear hK' K');(try dsimp only [aop]);try simp only [go_sem,↓reduceIte,Nat.reduceEqDiff,Nat.reduceLT,Nat.reduceLeDiff,Nat.reduceAdd,Nat.reduceSub,Nat.reduceMul,Nat.reduceBEq,Nat.reduceBNe,Nat.reducePow,Int.reduceToNat,Int.reduceLE,Int.reduceLT,Int.reduceMul,Int.reduceEq,Int.reducePow,Int.reduceAdd,Int.reduceSub,Int.reduceNeg,reduceCtorEq,cq,Tryz.results27]) | (with_reducible first | refine aI ?_ | refine ao ?_ | refine aP ?_ | refine aS ?_ | refine bi fun K hK => ?_ | refine aC ?_ | refine ah ?_ | refine av ?_ | refine au ?_) | (with_reducible refine hK _ ?_;clear hK K) | ((with_reducible first | refine aF ?_ ?_ | refine ai ?_ ?_);(· decide)))
 refine b7 (α := Nat) (fun k => [(2,.loc 10002 0),(3,.loc 10003 0),(5,inA (k : Int)),(10002,.bc [inA c,.sl (bn t) t.length .none] 24),(10003,.bc [inA c,.sl (bn t) t.length .none] 24)])
  (fun k => k ≤ t.length) (fun k => t.length - k) 0 [2,3,5] ?_ (Nat.zero_le _) ?_
 ·simp only [go_sem,↓reduceIte,Nat.reduceEqDiff,Nat.reduceLT,Nat.reduceLeDiff,Nat.reduceAdd,Nat.reduceSub,Nat.reduceMul,Nat.reduceBEq,Nat.reduceBNe,Nat.reducePow,Int.reduceToNat,Int.reduceLE,Int.reduceLT,Int.reduceMul,Int.reduceEq,Int.reducePow,Int.reduceAdd,Int.reduceSub,Int.reduceNeg,reduceCtorEq] <;> rfl
 intro k hk ih
 by_cases hlt : k < t.length
 ·have hlt' : ((k : Int) < (t.length : Int)) = True := eq_true (by omega)
  have hkw := cC (n := k) (by omega)
  have hg0 := eM hlt
  have hfl := cM t
  have ih' := ih (k + 1) (by omega) (by omega)
  clear ih
  generalize t[k] = m at *
  obtain ⟨v,x⟩ := m
  simp only at hg0
  repeat' (first | (with_reducible refine hY _ ?_;clear hY Y) | ((with_reducible first | refine aX rfl (aR fun K' hK' => aa ?_) | refine hK' _ (ab fun Y hY => aa ?_) | refine ab fun Y hY => aa ?_ | refine ag tk0 cq (ab fun Y hY => aa ?_) | refine aa ?_ | refine aN rfl (ap fun K' hK' => aa ?_) | refine hK' _ _ (ab fun Y hY => aa ?_));(try clear hK' K');(try dsimp only [aop]);try simp only [go_sem,↓reduceIte,Nat.reduceEqDiff,Nat.reduceLT,Nat.reduceLeDiff,Nat.reduceAdd,Nat.reduceSub,Nat.reduceMul,Nat.reduceBEq,Nat.reduceBNe,Nat.reducePow,Int.reduceToNat,Int.reduceLE,Int.reduceLT,Int.reduceMul,Int.reduceEq,Int.reducePow,Int.reduceAdd,Int.reduceSub,Int.reduceNeg,reduceCtorEq,cq,Tryz.results27,hlt',hkw,hg0,hfl]) | (with_reducible first | refine aI ?_ | refine aP ?_ | refine aS ?_ | refine bi fun K hK => ?_ | refine aD ?_ | refine aC ?_ | refine ay ?_ | refine ah ?_ | refine av ?_ | refine aj ?_ | refine bh fun K hK => ?_) | (with_reducible refine hK _ ?_;clear hK K) | (with_reducible refine hK _ _ ?_ ?_;(· kernel_rfl);clear hK K) | ((with_reducible refine ai ?_ ?_);(· decide)) | (with_reducible refine aq tk0 cq ?_ ?_;(· kernel_rfl)) | (with_reducible refine aV ?_ ?_;(· (try and_intros) <;> first | omega | assumption | (simp only [List.length_append,List.length_map,List.length_cons,List.length_nil] <;> omega))) | (with_reducible refine ce (pq _ _ _ _) ?_))
  refine bO [2,3,5] (by simp only [go_sem,↓reduceIte,Nat.reduceEqDiff,Nat.reduceLT,Nat.reduceLeDiff,Nat.reduceAdd,Nat.reduceSub,Nat.reduceMul,Nat.reduceBEq,Nat.reduceBNe,Nat.reducePow,Int.reduceToNat,Int.reduceLE,Int.reduceLT,Int.reduceMul,Int.reduceEq,Int.reducePow,Int.reduceAdd,Int.reduceSub,Int.reduceNeg,reduceCtorEq];exact rfl) ?_
  exact ih'
 ·have hlt' : ((k : Int) < (t.length : Int)) = False := eq_false (by omega)
  clear ih
  repeat' (first | (with_reducible refine hY _ ?_;clear hY Y) | ((with_reducible first | refine aX rfl (aR fun K' hK' => aa ?_) | refine hK' _ (ab fun Y hY => aa ?_) | refine ab fun Y hY => aa ?_ | refine ag tk0 cq (ab fun Y hY => aa ?_) | refine aa ?_ | refine aH ?_);(try clear hK' K');(try dsimp only [aop]);try simp only [go_sem,↓reduceIte,Nat.reduceEqDiff,Nat.reduceLT,Nat.reduceLeDiff,Nat.reduceAdd,Nat.reduceSub,Nat.reduceMul,Nat.reduceBEq,Nat.reduceBNe,Nat.reducePow,Int.reduceToNat,Int.reduceLE,Int.reduceLT,Int.reduceMul,Int.reduceEq,Int.reducePow,Int.reduceAdd,Int.reduceSub,Int.reduceNeg,reduceCtorEq,cq,Tryz.results27,hlt']) | (with_reducible first | refine aI ?_ | refine aP ?_ | refine aS ?_ | refine bi fun K hK => ?_ | refine aC ?_ | refine aO ?_ | refine ax ?_ | refine aL ?_ | refine ar ?_) | (with_reducible refine hK _ ?_;clear hK K) | ((with_reducible refine ai ?_ ?_);(· decide)))
end Go.Proofs.YtmpdocplcgbpkaaGreatDoor
namespace Go.Proofs.YtmpdocplcgbpkaaGreatDoor
set_option linter.unusedSimpArgs false
set_option linter.unusedVariables false
open Go.RowKit
set_option maxRecDepth 100000 in
theorem s6 (p q : Operand) (v x v' x' : Int) (hne : ¬ (v = v' ∧ x = x')) : ∀ w,((eqGuard .neq 94 p q (.agg #[.int .i64 v,.int .i64 x]) (.agg #[.int .i64 v',.int .i64 x']) >>= fun _ => binOp .neq 94 (.agg #[.int .i64 v,.int .i64 x]) (.agg #[.int .i64 v',.int .i64 x'])) : Sem Value).run Tryz.prog w = .ok (.bool true) w := fun w => by
 have u3 := Tryz.underlying3
 have a3 := Tryz.isAgg3
 have z3 := Tryz.sizeOf3
 have hS : Tryz.prog.underlying 94 = some (.struct (Tryz.prog.fieldsOf 94)) := by kernel_rfl
 have hp : Tryz.prog.stoodInHeld 94 = false := by kernel_rfl
 have hm : Tryz.prog.eqGuardType Tryz.prog.depth 94 = false := by kernel_rfl
 rw [Sem.run_bind,run_eqGuard_agg w .neq _ p q _ _ hm]
 simp only [Result.andThen_ok]
 rw [run_neq_struct,show (10000 : Nat) = 9999 + 1 from rfl,run_equalIn_agg w 9999 _ _ _ hS hp]
 simp only [Program.fieldsOf,Tryz.underlying94]
 by_cases h1 : v = v'
 ·have h2 : ¬ x = x' := fun e => hne ⟨h1,e⟩
  subst h1
  simp [go_sem,Op.eqFields,u3,a3,z3,h2]
 ·simp [go_sem,Op.eqFields,u3,a3,z3,h1]
def eqT (a b : List Tm) : Bool := decide (a = b)
def bl : Nat → List Nat
 | 0 => [0,1]
 | 1 => [0,1]
 | 2 => []
 | 3 => [0,1]
 | 4 => [0,1,12,13]
 | 5 => [0,1,12,13]
 | 6 => [0,1,5,12,13]
 | 7 => []
 | 8 => [0,1,12,13]
 | 9 => []
 | _ => []
set_option maxRecDepth 100000 in
set_option maxHeartbeats 8000000 in
theorem ua (a b : List Tm) (ha : Lg a) (hb : Lg b) : AFn Tryz.prog 120 [.sl (bn a) a.length .none,.sl (bn b) b.length .none] [] (.c (.bool (eqT a b))) [] := by
 unfold Lg at ha hb
 by_cases hl : a.length = b.length
 ·have hl' : ((a.length : Int) = (b.length : Int)) = True := eq_true (by omega)
  have hlb : ((b.length : Nat) : Int) = (a.length : Int) := by omega
  refine bm [] Tryz.func120 rfl Tryz.ntmps120 (Nat.le_of_ble_eq_true rfl) (Nat.le_of_ble_eq_true rfl) fun w0 G0 B0 Pr hB0 => ?_
  simp only [bD,bj,List.cons_append,List.nil_append]
  repeat' (first | (with_reducible refine hY _ ?_;clear hY Y) | ((with_reducible first | refine aX rfl (aR fun K' hK' => aa ?_) | refine hK' _ (ab fun Y hY => aa ?_) | refine ab fun Y hY => aa ?_ | refine ag tk0 bl (ab fun Y hY => aa ?_));(try clear hK' K');(try dsimp only [aop]);try simp only [go_sem,↓reduceIte,Nat.reduceEqDiff,Nat.reduceLT,Nat.reduceLeDiff,Nat.reduceAdd,Nat.reduceSub,Nat.reduceMul,Nat.reduceBEq,Nat.reduceBNe,Nat.reducePow,Int.reduceToNat,Int.reduceLE,Int.reduceLT,Int.reduceMul,Int.reduceEq,Int.reducePow,Int.reduceAdd,Int.reduceSub,Int.reduceNeg,reduceCtorEq,bl,Tryz.results120,hl']) | (with_reducible first | refine aI ?_ | refine aP ?_ | refine aS ?_ | refine bi fun K hK => ?_ | refine aC ?_ | refine ah ?_ | refine av ?_ | refine au ?_) | (with_reducible refine hK _ ?_;clear hK K) | ((with_reducible refine ai ?_ ?_);(· decide)))
  refine b7 (α := Nat) (fun k => [(0,.sl (bn a) a.length .none),(1,.sl (bn b) b.length .none),(12,inA (a.length : Int)),(13,inA (k : Int))])
   (fun k => k ≤ a.length ∧ ∀ j (h1 : j < a.length) (h2 : j < b.length),j < k → a[j] = b[j]) (fun k => a.length - k) 0 [0,1,12,13] ?_ ⟨Nat.zero_le _,fun j _ _ h => absurd h (Nat.not_lt_zero _)⟩ ?_
  ·simp only [go_sem,↓reduceIte,Nat.reduceEqDiff,Nat.reduceLT,Nat.reduceLeDiff,Nat.reduceAdd,Nat.reduceSub,Nat.reduceMul,Nat.reduceBEq,Nat.reduceBNe,Nat.reducePow,Int.reduceToNat,Int.reduceLE,Int.reduceLT,Int.reduceMul,Int.reduceEq,Int.reducePow,Int.reduceAdd,Int.reduceSub,Int.reduceNeg,reduceCtorEq] <;> rfl
  rintro k ⟨hk,hall⟩ ih
  by_cases hlt : k < a.length
  ·have hltb : k < b.length := by omega
   have hlt' : ((k : Int) < (a.length : Int)) = True := eq_true (by omega)
   have hltb' : ((k : Int) < (b.length : Int)) = True := eq_true (by omega)
   have hkw := cC (n := k) (by omega)
   have hg0 := eM hlt
   have hg1 := eM hltb
   have hfa := cM a
   have hfb := cM b
   by_cases hd : a[k] = b[k]
   ·have ih' := ih (k + 1) ⟨by omega,fun j h1 h2 hjk => by
     by_cases e : j < k
     ·exact hall j h1 h2 e
     ·obtain rfl : j = k := by omega
      exact hd⟩ (by omega)
    rw [← hd] at hg1
    clear ih hall hd
    generalize a[k] = m at *
    obtain ⟨v,x⟩ := m
    simp only at hg0 hg1
    repeat' (first | (with_reducible refine hY _ ?_;clear hY Y) | ((with_reducible first | refine aX rfl (aR fun K' hK' => aa ?_) | refine hK' _ (ab fun Y hY => aa ?_) | refine ab fun Y hY => aa ?_ | refine ag tk0 bl (ab fun Y hY => aa ?_) | refine aa ?_ | refine aN rfl (ap fun K' hK' => aa ?_) | refine hK' _ _ (ab fun Y hY => aa ?_));(try clear hK' K');(try dsimp only [aop]);try simp only [go_sem,↓reduceIte,Nat.reduceEqDiff,Nat.reduceLT,Nat.reduceLeDiff,Nat.reduceAdd,Nat.reduceSub,Nat.reduceMul,Nat.reduceBEq,Nat.reduceBNe,Nat.reducePow,Int.reduceToNat,Int.reduceLE,Int.reduceLT,Int.reduceMul,Int.reduceEq,Int.reducePow,Int.reduceAdd,Int.reduceSub,Int.reduceNeg,reduceCtorEq,bl,Tryz.results120,hlt',hltb',hfa,hfb,hg0,hg1,hkw]) | (with_reducible first | refine aI ?_ | refine aP ?_ | refine aS ?_ | refine bi fun K hK => ?_ | refine aD ?_ | refine aC ?_ | refine ay ?_ | refine ah ?_ | refine av ?_ | refine aj ?_ | refine bh fun K hK => ?_) | (with_reducible refine hK _ ?_;clear hK K) | (with_reducible refine hK _ _ ?_ ?_;(· kernel_rfl);clear hK K) | ((with_reducible refine ai ?_ ?_);(· decide)) | (with_reducible refine aq tk0 bl ?_ ?_;(· kernel_rfl)) | (with_reducible refine aV ?_ ?_;(· (try and_intros) <;> first | omega | assumption | (simp only [List.length_append,List.length_map,List.length_cons,List.length_nil] <;> omega))) | (with_reducible refine ce (pq _ _ _ _) ?_))
    refine bO [0,1,12,13] (by simp only [go_sem,↓reduceIte,Nat.reduceEqDiff,Nat.reduceLT,Nat.reduceLeDiff,Nat.reduceAdd,Nat.reduceSub,Nat.reduceMul,Nat.reduceBEq,Nat.reduceBNe,Nat.reducePow,Int.reduceToNat,Int.reduceLE,Int.reduceLT,Int.reduceMul,Int.reduceEq,Int.reducePow,Int.reduceAdd,Int.reduceSub,Int.reduceNeg,reduceCtorEq];exact rfl) ?_
    exact ih'
   ·rw [show eqT a b = false from decide_eq_false fun e => hd (by subst e;rfl)]
    clear ih hall
    generalize a[k] = m at *
    generalize b[k] = n at *
    obtain ⟨v,x⟩ := m
    obtain ⟨v',x'⟩ := n
    have hne : ¬ (v = v' ∧ x = x') := fun e => hd (by rw [e.1,e.2])
    simp only at hg0 hg1
    repeat' (first | (with_reducible refine hY _ ?_;clear hY Y) | ((with_reducible first | refine aX rfl (aR fun K' hK' => aa ?_) | refine hK' _ (ab fun Y hY => aa ?_) | refine ab fun Y hY => aa ?_ | refine ag tk0 bl (ab fun Y hY => aa ?_) | refine aa ?_ | refine aH ?_ | refine aN rfl (ap fun K' hK' => aa ?_) | refine hK' _ _ (ab fun Y hY => aa ?_));(try clear hK' K');(try dsimp only [aop]);try simp only [go_sem,↓reduceIte,Nat.reduceEqDiff,Nat.reduceLT,Nat.reduceLeDiff,Nat.reduceAdd,Nat.reduceSub,Nat.reduceMul,Nat.reduceBEq,Nat.reduceBNe,Nat.reducePow,Int.reduceToNat,Int.reduceLE,Int.reduceLT,Int.reduceMul,Int.reduceEq,Int.reducePow,Int.reduceAdd,Int.reduceSub,Int.reduceNeg,reduceCtorEq,bl,Tryz.results120,hlt',hltb',hfa,hfb,hg0,hg1,hkw]) | (with_reducible first | refine aI ?_ | refine aP ?_ | refine aS ?_ | refine bi fun K hK => ?_ | refine aD ?_ | refine aQ ?_ | refine aA ?_ | refine ah ?_ | refine av ?_ | refine aL ?_ | refine aj ?_ | refine bh fun K hK => ?_) | (with_reducible refine hK _ ?_;clear hK K) | (with_reducible refine hK _ _ ?_ ?_;(· kernel_rfl);clear hK K) | ((with_reducible refine ai ?_ ?_);(· decide)) | (with_reducible refine aq tk0 bl ?_ ?_;(· kernel_rfl)) | (with_reducible refine aV ?_ ?_;(· (try and_intros) <;> first | omega | assumption | (simp only [List.length_append,List.length_map,List.length_cons,List.length_nil] <;> omega))) | (with_reducible refine ce (s6 _ _ _ _ _ _ hne) ?_))
  ·have hlt' : ((k : Int) < (a.length : Int)) = False := eq_false (by omega)
   rw [show eqT a b = true from decide_eq_true (List.ext_getElem hl fun j h1 h2 => hall j h1 h2 (by omega))]
   clear ih hall
   repeat' (first | (with_reducible refine hY _ ?_;clear hY Y) | ((with_reducible first | refine aX rfl (aR fun K' hK' => aa ?_) | refine hK' _ (ab fun Y hY => aa ?_) | refine ab fun Y hY => aa ?_ | refine ag tk0 bl (ab fun Y hY => aa ?_) | refine aa ?_ | refine aH ?_);(try clear hK' K');(try dsimp only [aop]);try simp only [go_sem,↓reduceIte,Nat.reduceEqDiff,Nat.reduceLT,Nat.reduceLeDiff,Nat.reduceAdd,Nat.reduceSub,Nat.reduceMul,Nat.reduceBEq,Nat.reduceBNe,Nat.reducePow,Int.reduceToNat,Int.reduceLE,Int.reduceLT,Int.reduceMul,Int.reduceEq,Int.reducePow,Int.reduceAdd,Int.reduceSub,Int.reduceNeg,reduceCtorEq,bl,Tryz.results120,hlt']) | (with_reducible first | refine aI ?_ | refine aP ?_ | refine aS ?_ | refine bi fun K hK => ?_ | refine aC ?_ | refine aO ?_ | refine ax ?_ | refine aL ?_ | refine ar ?_) | (with_reducible refine hK _ ?_;clear hK K) | ((with_reducible refine ai ?_ ?_);(· decide)))
 ·have hl' : ((a.length : Int) = (b.length : Int)) = False := eq_false (by omega)
  rw [show eqT a b = false from decide_eq_false fun e => hl (by rw [e])]
  refine bm [] Tryz.func120 rfl Tryz.ntmps120 (Nat.le_of_ble_eq_true rfl) (Nat.le_of_ble_eq_true rfl) fun w0 G0 B0 Pr hB0 => ?_
  simp only [bD,bj,List.cons_append,List.nil_append]
  repeat' (first | (with_reducible refine hY _ ?_;clear hY Y) | ((with_reducible first | refine aX rfl (aR fun K' hK' => aa ?_) | refine hK' _ (ab fun Y hY => aa ?_) | refine ab fun Y hY => aa ?_ | refine ag tk0 bl (ab fun Y hY => aa ?_) | refine aa ?_ | refine aH ?_);(try clear hK' K');(try dsimp only [aop]);try simp only [go_sem,↓reduceIte,Nat.reduceEqDiff,Nat.reduceLT,Nat.reduceLeDiff,Nat.reduceAdd,Nat.reduceSub,Nat.reduceMul,Nat.reduceBEq,Nat.reduceBNe,Nat.reducePow,Int.reduceToNat,Int.reduceLE,Int.reduceLT,Int.reduceMul,Int.reduceEq,Int.reducePow,Int.reduceAdd,Int.reduceSub,Int.reduceNeg,reduceCtorEq,bl,Tryz.results120,hl']) | (with_reducible first | refine aI ?_ | refine aP ?_ | refine aS ?_ | refine bi fun K hK => ?_ | refine aD ?_ | refine aQ ?_ | refine aL ?_) | (with_reducible refine hK _ ?_;clear hK K) | ((with_reducible refine ai ?_ ?_);(· decide)))
def gB (a b : Ln) : Bool := decide (a.c = b.c) && eqT a.t b.t
def dn : Nat → List Nat
 | 0 => [0,1]
 | 1 => [2,3]
 | _ => []
set_option maxRecDepth 100000 in
theorem sX (a b : Ln) (ha : Lg a.t) (hb : Lg b.t) : AFn Tryz.prog 108 [.agg (lnA a),.agg (lnA b)] [] (.c (.bool (gB a b))) [] := by
 have h := ua a.t b.t ha hb
 unfold gB
 by_cases hc : a.c = b.c
 ·have hc' : (a.c = b.c) = True := eq_true hc
  rw [decide_eq_true hc,Bool.true_and]
  refine bm [] Tryz.func108 rfl Tryz.ntmps108 (Nat.le_of_ble_eq_true rfl) (Nat.le_of_ble_eq_true rfl) fun w0 G0 B0 Pr hB0 => ?_
  simp only [bD,bj,List.cons_append,List.nil_append]
  repeat' (first | (with_reducible refine hY _ ?_;clear hY Y) | ((with_reducible first | refine aX rfl (aR fun K' hK' => aa ?_) | refine hK' _ (ab fun Y hY => aa ?_) | refine aW rfl (ab fun Y hY => aa ?_) | refine ab fun Y hY => aa ?_ | refine aR fun K' hK' => aa ?_ | refine ag tk0 dn (ab fun Y hY => aa ?_) | refine aa ?_ | refine aH ?_);(try clear hK' K');(try dsimp only [aop]);try simp only [go_sem,↓reduceIte,Nat.reduceEqDiff,Nat.reduceLT,Nat.reduceLeDiff,Nat.reduceAdd,Nat.reduceSub,Nat.reduceMul,Nat.reduceBEq,Nat.reduceBNe,Nat.reducePow,Int.reduceToNat,Int.reduceLE,Int.reduceLT,Int.reduceMul,Int.reduceEq,Int.reducePow,Int.reduceAdd,Int.reduceSub,Int.reduceNeg,reduceCtorEq,dn,Tryz.results108,hc']) | (with_reducible first | refine aI ?_ | refine ao ?_ | refine aP ?_ | refine aS ?_ | refine bi fun K hK => ?_ | refine aL ?_) | (with_reducible refine hK _ ?_;clear hK K) | ((with_reducible refine aF ?_ ?_);(· decide)) | (with_reducible refine aK (h) ?_))
 ·have hc' : (a.c = b.c) = False := eq_false hc
  rw [decide_eq_false hc,Bool.false_and]
  refine bm [] Tryz.func108 rfl Tryz.ntmps108 (Nat.le_of_ble_eq_true rfl) (Nat.le_of_ble_eq_true rfl) fun w0 G0 B0 Pr hB0 => ?_
  simp only [bD,bj,List.cons_append,List.nil_append]
  repeat' (first | (with_reducible refine hY _ ?_;clear hY Y) | ((with_reducible first | refine aX rfl (aR fun K' hK' => aa ?_) | refine hK' _ (ab fun Y hY => aa ?_) | refine aW rfl (ab fun Y hY => aa ?_) | refine ab fun Y hY => aa ?_ | refine ag tk0 dn (ab fun Y hY => aa ?_) | refine aa ?_ | refine aH ?_);(try clear hK' K');(try dsimp only [aop]);try simp only [go_sem,↓reduceIte,Nat.reduceEqDiff,Nat.reduceLT,Nat.reduceLeDiff,Nat.reduceAdd,Nat.reduceSub,Nat.reduceMul,Nat.reduceBEq,Nat.reduceBNe,Nat.reducePow,Int.reduceToNat,Int.reduceLE,Int.reduceLT,Int.reduceMul,Int.reduceEq,Int.reducePow,Int.reduceAdd,Int.reduceSub,Int.reduceNeg,reduceCtorEq,dn,Tryz.results108,hc']) | (with_reducible first | refine aI ?_ | refine am rfl ?_ | refine bg ?_ ?_ | refine aP ?_ | refine aS ?_ | refine bi fun K hK => ?_ | refine aL ?_) | (with_reducible refine hK _ ?_;clear hK K) | ((with_reducible refine aF ?_ ?_);(· decide)))
end Go.Proofs.YtmpdocplcgbpkaaGreatDoor
namespace Go.Proofs.YtmpdocplcgbpkaaGreatDoor
set_option linter.unusedSimpArgs false
set_option linter.unusedVariables false
open Go.RowKit
def dB : Nat → List Nat
 | 0 => [0,1]
 | 1 => [1,2]
 | _ => []
theorem oR : bx Tryz.prog 107 = true := by kernel_rfl
set_option maxRecDepth 100000 in
theorem vL (l o : Ln) (hl : Lg l.t) (ho : Lg o.t) : AFn Tryz.prog 107 [.agg (lnA o),.loc 20000 0] [.bc (lnA l) 24] (.c (.bool (gB l o))) [.bc (lnA l) 24] := by
 have h := sX l o hl ho
 generalize gB l o = b at *
 obtain ⟨c,t⟩ := l
 obtain ⟨c',t'⟩ := o
 refine bm [] Tryz.func107 rfl Tryz.ntmps107 (Nat.le_of_ble_eq_true rfl) (Nat.le_of_ble_eq_true rfl) fun w0 G0 B0 Pr hB0 => ?_
 simp only [bD,bj,List.cons_append,List.nil_append]
 repeat' (first | (with_reducible refine hY _ ?_;clear hY Y) | ((with_reducible first | refine aX rfl (aR fun K' hK' => aa ?_) | refine hK' _ (ab fun Y hY => aa ?_) | refine ag tk0 dB (ab fun Y hY => aa ?_) | refine aa ?_ | refine aH ?_);(try clear hK' K');(try dsimp only [aop]);try simp only [go_sem,↓reduceIte,Nat.reduceEqDiff,Nat.reduceLT,Nat.reduceLeDiff,Nat.reduceAdd,Nat.reduceSub,Nat.reduceMul,Nat.reduceBEq,Nat.reduceBNe,Nat.reducePow,Int.reduceToNat,Int.reduceLE,Int.reduceLT,Int.reduceMul,Int.reduceEq,Int.reducePow,Int.reduceAdd,Int.reduceSub,Int.reduceNeg,reduceCtorEq,dB,Tryz.results107]) | (with_reducible first | refine aI ?_ | refine aP ?_ | refine aS ?_ | refine bi fun K hK => ?_ | refine aL ?_) | (with_reducible refine hK _ ?_;clear hK K) | (with_reducible refine aK (h) ?_))
def bw : Nat → List Nat
 | 0 => [0,1]
 | 1 => [0,1]
 | 2 => [0,1,7,8]
 | 3 => [0,1,7,8]
 | 4 => [0,1,5,7,8]
 | 5 => [5]
 | 6 => [0,1,7,8]
 | 7 => []
 | _ => []
set_option maxRecDepth 100000 in
set_option maxHeartbeats 8000000 in
theorem yy (ls : List Ln) (l : Ln) (hls : ls.length ≤ 1000000) (hl : Lg l.t) (hlt0 : ∀ o ∈ ls,Lg o.t) :
  AFn Tryz.prog 106 [.sl (ls.flatMap lnA) ls.length (.tok 20000),.fn (.func 107) [] [.loc 20001 0]] [.bt ls.length 24,.bc (lnA l) 24] (inA (fiP (gB l) ls)) [.bt ls.length 24,.bc (lnA l) 24] := by
 have hF := oR
 refine bm [] Tryz.func106 rfl Tryz.ntmps106 (Nat.le_of_ble_eq_true rfl) (Nat.le_of_ble_eq_true rfl) fun w0 G0 B0 Pr hB0 => ?_
 simp only [bD,bj,List.cons_append,List.nil_append]
 repeat' (first | (with_reducible refine hY _ ?_;clear hY Y) | ((with_reducible first | refine aX rfl (aR fun K' hK' => aa ?_) | refine hK' _ (ab fun Y hY => aa ?_) | refine ag tk0 bw (ab fun Y hY => aa ?_));(try clear hK' K');(try dsimp only [aop]);try simp only [go_sem,↓reduceIte,Nat.reduceEqDiff,Nat.reduceLT,Nat.reduceLeDiff,Nat.reduceAdd,Nat.reduceSub,Nat.reduceMul,Nat.reduceBEq,Nat.reduceBNe,Nat.reducePow,Int.reduceToNat,Int.reduceLE,Int.reduceLT,Int.reduceMul,Int.reduceEq,Int.reducePow,Int.reduceAdd,Int.reduceSub,Int.reduceNeg,reduceCtorEq,bw,Tryz.results106]) | (with_reducible first | refine aI ?_ | refine aP ?_ | refine aS ?_ | refine bi fun K hK => ?_ | refine ah ?_ | refine au ?_) | (with_reducible refine hK _ ?_;clear hK K))
 refine b7 (α := Nat) (fun k => [(0,.sl (ls.flatMap lnA) ls.length (.tok 20000)),(1,.fn (.func 107) [] [.loc 20001 0]),(7,inA (ls.length : Int)),(8,inA (k : Int)),(20000,.bt ls.length 24),(20001,.bc (lnA l) 24)])
  (fun k => k ≤ ls.length ∧ ∀ j (hj : j < ls.length),j < k → gB l ls[j] = false) (fun k => ls.length - k) 0 [0,1,7,8] ?_ ⟨Nat.zero_le _,fun j _ hj => absurd hj (Nat.not_lt_zero _)⟩ ?_
 ·simp only [go_sem,↓reduceIte,Nat.reduceEqDiff,Nat.reduceLT,Nat.reduceLeDiff,Nat.reduceAdd,Nat.reduceSub,Nat.reduceMul,Nat.reduceBEq,Nat.reduceBNe,Nat.reducePow,Int.reduceToNat,Int.reduceLE,Int.reduceLT,Int.reduceMul,Int.reduceEq,Int.reducePow,Int.reduceAdd,Int.reduceSub,Int.reduceNeg,reduceCtorEq] <;> rfl
 rintro k ⟨hk,hall⟩ ih
 by_cases hlt : k < ls.length
 ·have hlt' : ((k : Int) < (ls.length : Int)) = True := eq_true (by omega)
  have hkw := cC (n := k) (by omega)
  have h1 := vL l ls[k] hl (hlt0 _ (List.getElem_mem hlt))
  have hg0 := i4 hlt
  have hfl := eo ls
  have hfi := kU (p := gB l) hlt hall
  have hnx : gB l ls[k] = false → ∀ j (hj : j < ls.length),j < k + 1 → gB l ls[j] = false := fun e j hj hjk => by
   by_cases hj2 : j < k
   ·exact hall j hj hj2
   ·have : j = k := by omega
    subst this;exact e
  clear hlt0
  generalize ls[k] = o at *
  generalize hp : gB l o = b at *
  cases b with
  | true =>
   rw [hfi rfl]
   clear ih hfi hnx hall
   repeat' (first | (with_reducible refine hY _ ?_;clear hY Y) | ((with_reducible first | refine aX rfl (aR fun K' hK' => aa ?_) | refine hK' _ (ab fun Y hY => aa ?_) | refine ab fun Y hY => aa ?_ | refine ag tk0 bw (ab fun Y hY => aa ?_) | refine aa ?_ | refine aH ?_);(try clear hK' K');(try dsimp only [aop]);try simp only [go_sem,↓reduceIte,Nat.reduceEqDiff,Nat.reduceLT,Nat.reduceLeDiff,Nat.reduceAdd,Nat.reduceSub,Nat.reduceMul,Nat.reduceBEq,Nat.reduceBNe,Nat.reducePow,Int.reduceToNat,Int.reduceLE,Int.reduceLT,Int.reduceMul,Int.reduceEq,Int.reducePow,Int.reduceAdd,Int.reduceSub,Int.reduceNeg,reduceCtorEq,bw,Tryz.results106,hlt',hfl,hg0,hkw,hF]) | (with_reducible first | refine aI ?_ | refine aP ?_ | refine aS ?_ | refine bi fun K hK => ?_ | refine aD ?_ | refine aQ ?_ | refine aA ?_ | refine ah ?_ | refine av ?_ | refine aL ?_) | (with_reducible refine hK _ ?_;clear hK K) | ((with_reducible refine ai ?_ ?_);(· decide)) | (with_reducible refine aV ?_ ?_;(· (try and_intros) <;> first | omega | assumption | (simp only [List.length_append,List.length_map,List.length_cons,List.length_nil] <;> omega))) | (with_reducible refine aK (h1) ?_))
  | false =>
   clear hfi
   have ih' := ih (k + 1) ⟨by omega,hnx rfl⟩ (by omega)
   clear ih hnx hall
   repeat' (first | (with_reducible refine hY _ ?_;clear hY Y) | ((with_reducible first | refine aX rfl (aR fun K' hK' => aa ?_) | refine hK' _ (ab fun Y hY => aa ?_) | refine ab fun Y hY => aa ?_ | refine ag tk0 bw (ab fun Y hY => aa ?_) | refine aa ?_);(try clear hK' K');(try dsimp only [aop]);try simp only [go_sem,↓reduceIte,Nat.reduceEqDiff,Nat.reduceLT,Nat.reduceLeDiff,Nat.reduceAdd,Nat.reduceSub,Nat.reduceMul,Nat.reduceBEq,Nat.reduceBNe,Nat.reducePow,Int.reduceToNat,Int.reduceLE,Int.reduceLT,Int.reduceMul,Int.reduceEq,Int.reducePow,Int.reduceAdd,Int.reduceSub,Int.reduceNeg,reduceCtorEq,bw,Tryz.results106,hlt',hfl,hg0,hkw,hF]) | (with_reducible first | refine aI ?_ | refine aP ?_ | refine aS ?_ | refine bi fun K hK => ?_ | refine aD ?_ | refine aC ?_ | refine ay ?_ | refine ah ?_ | refine av ?_) | (with_reducible refine hK _ ?_;clear hK K) | ((with_reducible refine ai ?_ ?_);(· decide)) | (with_reducible refine aV ?_ ?_;(· (try and_intros) <;> first | omega | assumption | (simp only [List.length_append,List.length_map,List.length_cons,List.length_nil] <;> omega))) | (with_reducible refine aK (h1) ?_))
   refine bO [0,1,7,8] (by simp only [go_sem,↓reduceIte,Nat.reduceEqDiff,Nat.reduceLT,Nat.reduceLeDiff,Nat.reduceAdd,Nat.reduceSub,Nat.reduceMul,Nat.reduceBEq,Nat.reduceBNe,Nat.reducePow,Int.reduceToNat,Int.reduceLE,Int.reduceLT,Int.reduceMul,Int.reduceEq,Int.reducePow,Int.reduceAdd,Int.reduceSub,Int.reduceNeg,reduceCtorEq];exact rfl) ?_
   exact ih'
 ·have hlt' : ((k : Int) < (ls.length : Int)) = False := eq_false (by omega)
  rw [kV fun j hj => hall j hj (by omega)]
  clear ih hall hlt0
  repeat' (first | (with_reducible refine hY _ ?_;clear hY Y) | ((with_reducible first | refine aX rfl (aR fun K' hK' => aa ?_) | refine hK' _ (ab fun Y hY => aa ?_) | refine ab fun Y hY => aa ?_ | refine ag tk0 bw (ab fun Y hY => aa ?_) | refine aa ?_ | refine aH ?_);(try clear hK' K');(try dsimp only [aop]);try simp only [go_sem,↓reduceIte,Nat.reduceEqDiff,Nat.reduceLT,Nat.reduceLeDiff,Nat.reduceAdd,Nat.reduceSub,Nat.reduceMul,Nat.reduceBEq,Nat.reduceBNe,Nat.reducePow,Int.reduceToNat,Int.reduceLE,Int.reduceLT,Int.reduceMul,Int.reduceEq,Int.reducePow,Int.reduceAdd,Int.reduceSub,Int.reduceNeg,reduceCtorEq,bw,Tryz.results106,hlt']) | (with_reducible first | refine aI ?_ | refine aP ?_ | refine aS ?_ | refine bi fun K hK => ?_ | refine aC ?_ | refine aO ?_ | refine ax ?_ | refine aL ?_ | refine ar ?_) | (with_reducible refine hK _ ?_;clear hK K) | ((with_reducible refine ai ?_ ?_);(· decide)))
abbrev et (c : List Int × Bool) : AV := .sl (c.1.map inA) c.1.length (if c.2 then .full else .none)
abbrev mkB (N : Int) (ls : List Ln) (cs : List (List Int × Bool)) : AV := .bc [inA N,.sl (ls.flatMap lnA) ls.length (.tok 20001),.sl (cs.map et) cs.length (.tok 20002),.c (.bool false)] 88
abbrev mkX (N : Int) (ls : List Ln) (cs : List (List Int × Bool)) : List AV := [mkB N ls cs,.bt ls.length 24,.bt cs.length 41]
def atN (ls : List Ln) (l : Ln) : Int := 1 + fiP (gB l) ls
theorem ug {α : Type} (p : α → Bool) (l : List α) : -1 ≤ fiP p l ∧ fiP p l < l.length := by
 unfold fiP
 split
 ·rename_i h
  obtain ⟨x,hx,hp⟩ := List.any_eq_true.1 h
  have := List.findIdx_lt_length_of_exists (p := p) (xs := l) ⟨x,hx,hp⟩
  omega
 ·omega
def dL : Nat → List Nat
 | 0 => [0,1]
 | 1 => [0,3]
 | _ => []
set_option maxRecDepth 100000 in
set_option maxHeartbeats 8000000 in
theorem tR (N : Int) (ls : List Ln) (cs : List (List Int × Bool)) (l : Ln) (hls : ls.length ≤ 1000000) (hl : Lg l.t) (hlt0 : ∀ o ∈ ls,Lg o.t) :
  AFn Tryz.prog 72 [.loc 20000 0,.agg (lnA l)] (mkX N ls cs) (inA (atN ls l)) (mkX N ls cs) := by
 have h := yy ls l hls hl hlt0
 have hF := oR
 have hb := ug (gB l) ls
 unfold atN
 generalize fiP (gB l) ls = x at *
 have hw : IntKind.i64.wrap (1 + x) = 1 + x := bQ (by omega) (by omega)
 obtain ⟨c,t⟩ := l
 clear hlt0
 generalize cs.map et = CS at *
 refine bm [] Tryz.func72 rfl Tryz.ntmps72 (Nat.le_of_ble_eq_true rfl) (Nat.le_of_ble_eq_true rfl) fun w0 G0 B0 Pr hB0 => ?_
 simp only [bD,bj,List.cons_append,List.nil_append]
 repeat' (first | (with_reducible refine hY _ ?_;clear hY Y) | ((with_reducible first | refine aX rfl (aR fun K' hK' => aa ?_) | refine hK' _ (ab fun Y hY => aa ?_) | refine ag tk0 dL (ab fun Y hY => aa ?_) | refine aa ?_ | refine aH ?_);(try clear hK' K');(try dsimp only [aop]);try simp only [go_sem,↓reduceIte,Nat.reduceEqDiff,Nat.reduceLT,Nat.reduceLeDiff,Nat.reduceAdd,Nat.reduceSub,Nat.reduceMul,Nat.reduceBEq,Nat.reduceBNe,Nat.reducePow,Int.reduceToNat,Int.reduceLE,Int.reduceLT,Int.reduceMul,Int.reduceEq,Int.reducePow,Int.reduceAdd,Int.reduceSub,Int.reduceNeg,reduceCtorEq,dL,Tryz.results72,hF,hw]) | (with_reducible first | refine aI ?_ | refine aP ?_ | refine aS ?_ | refine bi fun K hK => ?_ | refine aL ?_) | (with_reducible refine hK _ ?_;clear hK K) | (with_reducible refine aK (h) ?_))
end Go.Proofs.YtmpdocplcgbpkaaGreatDoor
namespace Go.Proofs.YtmpdocplcgbpkaaGreatDoor
set_option linter.unusedSimpArgs false
set_option linter.unusedVariables false
open Go.RowKit
def mB (k : Int) (l : Ln) (ls : List Ln) : List Ln := if k = 2 ∧ atN ls l = 0 then ls ++ [l] else ls
mutual
def dv : Fo → List Ln → List Ln
 | .mk k l ks,ls => iV ks (mB k l ls)
def iV : List Fo → List Ln → List Ln
 | [],ls => ls
 | f :: r,ls => iV r (dv f ls)
end
theorem o6 (k : Int) (l : Ln) (ls : List Ln) : (mB k l ls).length ≤ ls.length + 1 := by
 unfold mB;split
 ·simp
 ·omega
theorem rN {k : Int} {l : Ln} {ls : List Ln} (hl : Lg l.t) (h : ∀ o ∈ ls,Lg o.t) : ∀ o ∈ mB k l ls,Lg o.t := fun o ho => by
 unfold mB at ho
 split at ho
 ·rcases List.mem_append.1 ho with ho | ho
  ·exact h o ho
  ·rw [List.mem_singleton] at ho;subst ho;exact hl
 ·exact h o ho
mutual
theorem iU : ∀ (f : Fo) (ls : List Ln),(dv f ls).length ≤ ls.length + tot f
 | .mk k l ks,ls => by
  have h1 := o6 k l ls
  have h2 := o7 ks (mB k l ls)
  rw [dv,tot];omega
theorem o7 : ∀ (l : List Fo) (ls : List Ln),(iV l ls).length ≤ ls.length + d3 l
 | [],ls => by rw [iV,d3];omega
 | f :: r,ls => by
  have h1 := iU f ls
  have h2 := o7 r (dv f ls)
  rw [iV,d3];omega
end
mutual
theorem lr : ∀ (f : Fo) (ls : List Ln),OkF f → (∀ o ∈ ls,Lg o.t) → ∀ o ∈ dv f ls,Lg o.t
 | .mk k l ks,ls,h,hl => by
  rw [dv]
  exact rO ks _ h.2.2 (rN h.1 hl)
theorem rO : ∀ (l : List Fo) (ls : List Ln),jF l → (∀ o ∈ ls,Lg o.t) → ∀ o ∈ iV l ls,Lg o.t
 | [],ls,_,hl => by rw [iV];exact hl
 | f :: r,ls,h,hl => by
  rw [iV]
  exact rO r _ h.2 (lr f ls h.1 hl)
end
abbrev yo (k c : Int) (t : List Tm) (ks : List Fo) : List AV := [inA k,inA c,.sl (bn t) t.length .none,.sl (cU ks) ks.length .none]
theorem j4 (k c : Int) (t : List Tm) (ks : List Fo) : foA (.mk k ⟨c,t⟩ ks) = yo k c t ks := rfl
theorem l6 (a : List Ln) (l : Ln) : (a ++ [l]).flatMap lnA = a.flatMap lnA ++ [inA l.c,.sl (bn l.t) l.t.length .none] := by rw [List.flatMap_append];simp
def bH : Nat → List Nat
 | 0 => [0,1]
 | 1 => [0,3]
 | 2 => [0,3]
 | 3 => [0,3]
 | 4 => [0,30,31,32]
 | 5 => [0,30,31,32]
 | 6 => [0,5,30,31,32]
 | 7 => [0,30,31,32]
 | _ => []
set_option maxRecDepth 100000 in
set_option maxHeartbeats 16000000 in
theorem o9 (N : Int) (cs : List (List Int × Bool)) : ∀ f,OkF f → ∀ (ls : List Ln),ls.length + tot f ≤ 1000000 → (∀ o ∈ ls,Lg o.t) →
  AFn Tryz.prog 35 [.loc 20000 0,.agg (foA f)] (mkX N ls cs) (.tup []) (mkX N (dv f ls) cs) := by
 refine im fun k l ks hlt0 hlk hoks IH ls hb hlg => ?_
 have hat := tR N ls cs l (by omega) hlt0 hlg
 rw [tot] at hb
 have hg1 := o6 k l ls
 have hgl : ∀ o ∈ mB k l ls,Lg o.t := rN hlt0 hlg
 rw [dv]
 have hgd : mB k l ls = if k = 2 ∧ atN ls l = 0 then ls ++ [l] else ls := rfl
 generalize mB k l ls = l1 at *
 obtain ⟨c,t⟩ := l
 rw [j4]
 unfold Lg at hlk
 have hCl : (ls.flatMap lnA).length = ls.length * 2 := eo ls
 refine bm [] Tryz.func35 rfl Tryz.ntmps35 (Nat.le_of_ble_eq_true rfl) (Nat.le_of_ble_eq_true rfl) fun w0 G0 B0 Pr hB0 => ?_
 simp only [bD,bj,List.cons_append,List.nil_append]
 apply kz (α := Unit) (fun _ => [(0,.loc 20000 0),(3,.loc 10003 0),(10003,.bc (yo k c t ks) 27),(20000,mkB N l1 cs),(20001,.bt l1.length 24),(20002,.bt cs.length 41)]) (fun _ => True)
 case use =>
  intro key
  by_cases k2 : k = 2
  ·by_cases ha : atN ls ⟨c,t⟩ = 0
   ·have h1 : l1 = ls ++ [⟨c,t⟩] := by rw [hgd,if_pos ⟨k2,ha⟩]
    have h2 : l1.flatMap lnA = ls.flatMap lnA ++ [inA c,.sl (bn t) t.length .none] := by rw [h1,l6]
    have h3 : l1.length = ls.length + 1 := by rw [h1];simp
    repeat' (first | (with_reducible refine hY _ ?_;clear hY Y) | ((with_reducible first | refine aX rfl (aR fun K' hK' => aa ?_) | refine hK' _ (ab fun Y hY => aa ?_) | refine aW rfl (ab fun Y hY => aa ?_) | refine ab fun Y hY => aa ?_ | refine aR fun K' hK' => aa ?_ | refine aa ?_ | refine aN rfl (ap fun K' hK' => aa ?_) | refine hK' _ _ (ab fun Y hY => aa ?_));(try clear hK' K');(try dsimp only [aop]);try simp only [go_sem,↓reduceIte,Nat.reduceEqDiff,Nat.reduceLT,Nat.reduceLeDiff,Nat.reduceAdd,Nat.reduceSub,Nat.reduceMul,Nat.reduceBEq,Nat.reduceBNe,Nat.reducePow,Int.reduceToNat,Int.reduceLE,Int.reduceLT,Int.reduceMul,Int.reduceEq,Int.reducePow,Int.reduceAdd,Int.reduceSub,Int.reduceNeg,reduceCtorEq,bH,Tryz.results35,k2,ha,hCl]) | (with_reducible first | refine aI ?_ | refine ao ?_ | refine aP ?_ | refine bi fun K hK => ?_ | refine aD ?_ | refine aj ?_ | refine bh fun K hK => ?_) | ((with_reducible refine cS 3 ?_ ?_);(· rfl)) | ((with_reducible refine ca 3 tk0 bH ?_ (ab fun Y hY => aa ?_));(· rfl);(try dsimp only [aop]);try simp only [go_sem,↓reduceIte,Nat.reduceEqDiff,Nat.reduceLT,Nat.reduceLeDiff,Nat.reduceAdd,Nat.reduceSub,Nat.reduceMul,Nat.reduceBEq,Nat.reduceBNe,Nat.reducePow,Int.reduceToNat,Int.reduceLE,Int.reduceLT,Int.reduceMul,Int.reduceEq,Int.reducePow,Int.reduceAdd,Int.reduceSub,Int.reduceNeg,reduceCtorEq,bH,Tryz.results35,k2,ha,hCl]) | (with_reducible refine hK _ ?_;clear hK K) | (with_reducible refine hK _ _ ?_ ?_;(· kernel_rfl);clear hK K) | ((with_reducible first | refine aF ?_ ?_ | refine ai ?_ ?_);(· decide)) | ((with_reducible refine cy 3 tk0 bH ?_ ?_ ?_);(· rfl);(· kernel_rfl)) | (with_reducible refine aV ?_ ?_;(· (try and_intros) <;> first | omega | assumption | (simp only [List.length_append,List.length_map,List.length_cons,List.length_nil] <;> omega))) | (with_reducible refine aK (hat) ?_))
    exact cf (L := [0,3]) (by simp only [go_sem,↓reduceIte,Nat.reduceEqDiff,Nat.reduceLT,Nat.reduceLeDiff,Nat.reduceAdd,Nat.reduceSub,Nat.reduceMul,Nat.reduceBEq,Nat.reduceBNe,Nat.reducePow,Int.reduceToNat,Int.reduceLE,Int.reduceLT,Int.reduceMul,Int.reduceEq,Int.reducePow,Int.reduceAdd,Int.reduceSub,Int.reduceNeg,reduceCtorEq,mkB,h2,h3,k2];try exact rfl) (key () trivial)
   ·have h1 : l1 = ls := by rw [hgd,if_neg fun e => ha e.2]
    have ha' : (atN ls ⟨c,t⟩ = 0) = False := eq_false ha
    repeat' (first | (with_reducible refine hY _ ?_;clear hY Y) | ((with_reducible first | refine aX rfl (aR fun K' hK' => aa ?_) | refine hK' _ (ab fun Y hY => aa ?_) | refine aW rfl (ab fun Y hY => aa ?_) | refine ab fun Y hY => aa ?_ | refine aR fun K' hK' => aa ?_ | refine aa ?_);(try clear hK' K');(try dsimp only [aop]);try simp only [go_sem,↓reduceIte,Nat.reduceEqDiff,Nat.reduceLT,Nat.reduceLeDiff,Nat.reduceAdd,Nat.reduceSub,Nat.reduceMul,Nat.reduceBEq,Nat.reduceBNe,Nat.reducePow,Int.reduceToNat,Int.reduceLE,Int.reduceLT,Int.reduceMul,Int.reduceEq,Int.reducePow,Int.reduceAdd,Int.reduceSub,Int.reduceNeg,reduceCtorEq,bH,Tryz.results35,k2,ha',hCl]) | (with_reducible first | refine aI ?_ | refine ao ?_ | refine aP ?_ | refine bi fun K hK => ?_ | refine aC ?_ | refine av ?_) | ((with_reducible refine cS 3 ?_ ?_);(· rfl)) | ((with_reducible refine ca 3 tk0 bH ?_ (ab fun Y hY => aa ?_));(· rfl);(try dsimp only [aop]);try simp only [go_sem,↓reduceIte,Nat.reduceEqDiff,Nat.reduceLT,Nat.reduceLeDiff,Nat.reduceAdd,Nat.reduceSub,Nat.reduceMul,Nat.reduceBEq,Nat.reduceBNe,Nat.reducePow,Int.reduceToNat,Int.reduceLE,Int.reduceLT,Int.reduceMul,Int.reduceEq,Int.reducePow,Int.reduceAdd,Int.reduceSub,Int.reduceNeg,reduceCtorEq,bH,Tryz.results35,k2,ha',hCl]) | (with_reducible refine hK _ ?_;clear hK K) | ((with_reducible first | refine aF ?_ ?_ | refine ai ?_ ?_);(· decide)) | (with_reducible refine aK (hat) ?_))
    exact cf (L := [0,3]) (by simp only [go_sem,↓reduceIte,Nat.reduceEqDiff,Nat.reduceLT,Nat.reduceLeDiff,Nat.reduceAdd,Nat.reduceSub,Nat.reduceMul,Nat.reduceBEq,Nat.reduceBNe,Nat.reducePow,Int.reduceToNat,Int.reduceLE,Int.reduceLT,Int.reduceMul,Int.reduceEq,Int.reducePow,Int.reduceAdd,Int.reduceSub,Int.reduceNeg,reduceCtorEq,h1,k2];try exact rfl) (key () trivial)
  ·have h1 : l1 = ls := by rw [hgd,if_neg fun e => k2 e.1]
   have k2' : (k = 2) = False := eq_false k2
   repeat' (first | (with_reducible refine hY _ ?_;clear hY Y) | ((with_reducible first | refine aX rfl (aR fun K' hK' => aa ?_) | refine hK' _ (ab fun Y hY => aa ?_) | refine aW rfl (ab fun Y hY => aa ?_) | refine ab fun Y hY => aa ?_ | refine aa ?_);(try clear hK' K');(try dsimp only [aop]);try simp only [go_sem,↓reduceIte,Nat.reduceEqDiff,Nat.reduceLT,Nat.reduceLeDiff,Nat.reduceAdd,Nat.reduceSub,Nat.reduceMul,Nat.reduceBEq,Nat.reduceBNe,Nat.reducePow,Int.reduceToNat,Int.reduceLE,Int.reduceLT,Int.reduceMul,Int.reduceEq,Int.reducePow,Int.reduceAdd,Int.reduceSub,Int.reduceNeg,reduceCtorEq,bH,Tryz.results35,k2',hCl]) | (with_reducible first | refine aI ?_ | refine am rfl ?_ | refine bg ?_ ?_ | refine aP ?_ | refine bi fun K hK => ?_ | refine aC ?_ | refine av ?_) | ((with_reducible refine cS 3 ?_ ?_);(· rfl)) | ((with_reducible refine ca 3 tk0 bH ?_ (ab fun Y hY => aa ?_));(· rfl);(try dsimp only [aop]);try simp only [go_sem,↓reduceIte,Nat.reduceEqDiff,Nat.reduceLT,Nat.reduceLeDiff,Nat.reduceAdd,Nat.reduceSub,Nat.reduceMul,Nat.reduceBEq,Nat.reduceBNe,Nat.reducePow,Int.reduceToNat,Int.reduceLE,Int.reduceLT,Int.reduceMul,Int.reduceEq,Int.reducePow,Int.reduceAdd,Int.reduceSub,Int.reduceNeg,reduceCtorEq,bH,Tryz.results35,k2',hCl]) | (with_reducible refine hK _ ?_;clear hK K) | ((with_reducible first | refine aF ?_ ?_ | refine ai ?_ ?_);(· decide)))
   exact cf (L := [0,3]) (by simp only [go_sem,↓reduceIte,Nat.reduceEqDiff,Nat.reduceLT,Nat.reduceLeDiff,Nat.reduceAdd,Nat.reduceSub,Nat.reduceMul,Nat.reduceBEq,Nat.reduceBNe,Nat.reducePow,Int.reduceToNat,Int.reduceLE,Int.reduceLT,Int.reduceMul,Int.reduceEq,Int.reducePow,Int.reduceAdd,Int.reduceSub,Int.reduceNeg,reduceCtorEq,h1];try exact rfl) (key () trivial)
 case key =>
 rintro _ _
 clear hat hCl hgd hlg
 have h0 : iV (ks.drop 0) l1 = iV ks l1 := by rw [List.drop_zero]
 have hb2 : l1.length + d3 (ks.drop 0) ≤ 1000000 := by rw [List.drop_zero];omega
 generalize iV ks l1 = R at *
 repeat' (first | (with_reducible refine hY _ ?_;clear hY Y) | ((with_reducible first | refine aX rfl (aR fun K' hK' => aa ?_) | refine hK' _ (ab fun Y hY => aa ?_) | refine ag tk0 bH (ab fun Y hY => aa ?_));(try clear hK' K');(try dsimp only [aop]);try simp only [go_sem,↓reduceIte,Nat.reduceEqDiff,Nat.reduceLT,Nat.reduceLeDiff,Nat.reduceAdd,Nat.reduceSub,Nat.reduceMul,Nat.reduceBEq,Nat.reduceBNe,Nat.reducePow,Int.reduceToNat,Int.reduceLE,Int.reduceLT,Int.reduceMul,Int.reduceEq,Int.reducePow,Int.reduceAdd,Int.reduceSub,Int.reduceNeg,reduceCtorEq,bH,Tryz.results35]) | (with_reducible first | refine aI ?_ | refine aP ?_ | refine aS ?_ | refine bi fun K hK => ?_ | refine ah ?_ | refine au ?_) | (with_reducible refine hK _ ?_;clear hK K))
 refine b7 (α := Nat × List Ln) (fun a => [(0,.loc 20000 0),(30,.sl (cU ks) ks.length .none),(31,inA (ks.length : Int)),(32,inA (a.1 : Int)),(20000,mkB N a.2 cs),(20001,.bt a.2.length 24),(20002,.bt cs.length 41)])
  (fun a => a.1 ≤ ks.length ∧ a.2.length + d3 (ks.drop a.1) ≤ 1000000 ∧ (∀ o ∈ a.2,Lg o.t) ∧ iV (ks.drop a.1) a.2 = R) (fun a => ks.length - a.1) (0,l1) [0,30,31,32] ?_ ⟨Nat.zero_le _,hb2,hgl,h0⟩ ?_
 ·simp only [go_sem,↓reduceIte,Nat.reduceEqDiff,Nat.reduceLT,Nat.reduceLeDiff,Nat.reduceAdd,Nat.reduceSub,Nat.reduceMul,Nat.reduceBEq,Nat.reduceBNe,Nat.reducePow,Int.reduceToNat,Int.reduceLE,Int.reduceLT,Int.reduceMul,Int.reduceEq,Int.reducePow,Int.reduceAdd,Int.reduceSub,Int.reduceNeg,reduceCtorEq] <;> rfl
 clear h0 hb2 hgl hb hg1
 rintro ⟨i,l2⟩ ⟨hi,hb3,hg3,hR⟩ ih
 simp only at hi hb3 hg3 hR ih ⊢
 by_cases hlt : i < ks.length
 ·have hlt' : ((i : Int) < (ks.length : Int)) = True := eq_true (by omega)
  have hkw := cC (n := i) (by omega)
  have hg0 := fh hlt
  have hfl := dy ks
  rw [List.drop_eq_getElem_cons hlt,d3] at hb3
  rw [List.drop_eq_getElem_cons hlt,iV] at hR
  have hc := IH ks[i] (List.getElem_mem hlt) l2 (by omega) hg3
  have hln := iU ks[i] l2
  have hlg3 := lr ks[i] l2 (g6 hoks _ (List.getElem_mem hlt)) hg3
  have ih' := ih (i + 1,dv ks[i] l2) ⟨by simp only;omega,by simp only;omega,hlg3,hR⟩ (by simp only;omega)
  simp only at ih'
  clear ih IH hR hln hlg3 hg3
  generalize dv ks[i] l2 = l3 at *
  generalize ks[i] = f at *
  obtain ⟨fk,⟨fc,ft⟩,fks⟩ := f
  rw [j4] at hg0 hc
  repeat' (first | (with_reducible refine hY _ ?_;clear hY Y) | ((with_reducible first | refine aX rfl (aR fun K' hK' => aa ?_) | refine hK' _ (ab fun Y hY => aa ?_) | refine ab fun Y hY => aa ?_ | refine ag tk0 bH (ab fun Y hY => aa ?_) | refine aa ?_);(try clear hK' K');(try dsimp only [aop]);try simp only [go_sem,↓reduceIte,Nat.reduceEqDiff,Nat.reduceLT,Nat.reduceLeDiff,Nat.reduceAdd,Nat.reduceSub,Nat.reduceMul,Nat.reduceBEq,Nat.reduceBNe,Nat.reducePow,Int.reduceToNat,Int.reduceLE,Int.reduceLT,Int.reduceMul,Int.reduceEq,Int.reducePow,Int.reduceAdd,Int.reduceSub,Int.reduceNeg,reduceCtorEq,bH,Tryz.results35,hlt',hkw,hg0,hfl]) | (with_reducible first | refine aI ?_ | refine aP ?_ | refine aS ?_ | refine bi fun K hK => ?_ | refine aD ?_ | refine ay ?_ | refine ah ?_ | refine av ?_) | (with_reducible refine hK _ ?_;clear hK K) | ((with_reducible refine ai ?_ ?_);(· decide)) | (with_reducible refine aV ?_ ?_;(· (try and_intros) <;> first | omega | assumption | (simp only [List.length_append,List.length_map,List.length_cons,List.length_nil] <;> omega))) | (with_reducible refine aK (hc) ?_))
  refine bO [0,30,31,32] (by simp only [go_sem,↓reduceIte,Nat.reduceEqDiff,Nat.reduceLT,Nat.reduceLeDiff,Nat.reduceAdd,Nat.reduceSub,Nat.reduceMul,Nat.reduceBEq,Nat.reduceBNe,Nat.reducePow,Int.reduceToNat,Int.reduceLE,Int.reduceLT,Int.reduceMul,Int.reduceEq,Int.reducePow,Int.reduceAdd,Int.reduceSub,Int.reduceNeg,reduceCtorEq];exact rfl) ?_
  exact ih'
 ·have hlt' : ((i : Int) < (ks.length : Int)) = False := eq_false (by omega)
  obtain rfl : l2 = R := by rw [← hR,List.drop_eq_nil_of_le (by omega),iV]
  clear ih IH hR
  repeat' (first | (with_reducible refine hY _ ?_;clear hY Y) | ((with_reducible first | refine aX rfl (aR fun K' hK' => aa ?_) | refine hK' _ (ab fun Y hY => aa ?_) | refine ab fun Y hY => aa ?_ | refine ag tk0 bH (ab fun Y hY => aa ?_) | refine aa ?_ | refine aG ?_);(try clear hK' K');(try dsimp only [aop]);try simp only [go_sem,↓reduceIte,Nat.reduceEqDiff,Nat.reduceLT,Nat.reduceLeDiff,Nat.reduceAdd,Nat.reduceSub,Nat.reduceMul,Nat.reduceBEq,Nat.reduceBNe,Nat.reducePow,Int.reduceToNat,Int.reduceLE,Int.reduceLT,Int.reduceMul,Int.reduceEq,Int.reducePow,Int.reduceAdd,Int.reduceSub,Int.reduceNeg,reduceCtorEq,bH,Tryz.results35,hlt']) | (with_reducible first | refine aI ?_ | refine aP ?_ | refine aS ?_ | refine bi fun K hK => ?_ | refine aC ?_ | refine aO ?_ | refine ax ?_ | refine ar ?_) | (with_reducible refine hK _ ?_;clear hK K) | ((with_reducible refine ai ?_ ?_);(· decide)))
end Go.Proofs.YtmpdocplcgbpkaaGreatDoor
