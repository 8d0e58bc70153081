/- How deep programs are, in K. How deep statements are, in K (printed by gen_ds.py). -/
import Derived.Test.YtkjnkkmokojnpaaGreatDoorZ9
namespace Go.Proofs.YtkjnkkmokojnpaaGreatDoor
set_option linter.unusedSimpArgs false
set_option linter.unusedVariables false
open Go.RowKit
theorem iQ {α : Type} {f : α → Nat} {b : Nat} (h : ∀ x,f x ≤ b) : ∀ l : List α,mxN (l.map f) ≤ b
 | [] => Nat.zero_le _
 | a :: r => by
  have := h a
  have := iQ h r
  rw [List.map_cons,mxN]; omega
theorem jb : ∀ b e,dE b e ≤ b + 1
 | 0,_ => Nat.le_refl _
 | b + 1,.mk _ _ _ ks => by rw [dE]; have := iQ (jb b) ks; omega
theorem rz : ∀ b e,dC b e ≤ b + 1
 | 0,_ => Nat.le_refl _
 | b + 1,.mk _ e ks => by rw [dC]; have := iQ (jb b) e; have := iQ (rz b) ks; omega
theorem vT : ∀ b e,dA b e ≤ b + 1
 | 0,_ => Nat.le_refl _
 | b + 1,.mk _ c e v _ _ ks => by rw [dA]; have := rz b c; have := jb b e; have := jb b v; have := iQ (vT b) ks; omega
theorem vU : ∀ b e,dS b e ≤ b + 1
 | 0,_ => Nat.le_refl _
 | b + 1,.mk _ _ _ _ e v c a rs gs _ bd l => by
  rw [dS]; have := rz b c; have := jb b e; have := jb b v; have := vT b a; have := iQ (jb b) rs; have := iQ (jb b) gs; have := iQ (vU b) bd; have := iQ (vU b) l; omega
theorem yW : ∀ a b : List Nat,mxN (a ++ b) = max (mxN a) (mxN b)
 | [],b => by simp [mxN]
 | x :: r,b => by rw [List.cons_append,mxN,mxN,yW r b]; omega
theorem jD {α : Type} (f : α → Nat) {l : List α} {k : Nat} (h : k < l.length) : mxN ((l.take (k + 1)).map f) = max (mxN ((l.take k).map f)) (f l[k]) := by
 rw [List.take_succ_eq_append_getElem h,List.map_append,yW]
 simp [mxN]
def ei : Nat → List Nat
 | 0 => [0,1]
 | 1 => [0,1]
 | 2 => [0]
 | 3 => [1]
 | _ => []
set_option maxRecDepth 100000 in
theorem jT (a b : Nat) : AFn Tryz.prog 116 [inA (a : Int),inA (b : Int)] [] (inA ((max a b : Nat) : Int)) [] := by
 by_cases h : b < a
 ·rw [show max a b = a by omega]
  have h' : ((b : Int) < (a : Int)) = True := eq_true (by omega)
  refine aM [] Tryz.func116 rfl Tryz.ntmps116 (Nat.le_of_ble_eq_true rfl) (Nat.le_of_ble_eq_true rfl) fun w0 G0 B0 Pr hB0 => ?_
  simp only [aW,aL,List.cons_append,List.nil_append]
  repeat' (first | (with_reducible refine hY _ ?_; clear hY Y) | ((with_reducible first | refine au rfl (ay fun K' hK' => aa ?_) | refine hK' _ (ab fun Y hY => aa ?_) | refine ab fun Y hY => aa ?_ | refine ac tk0 ei (ab fun Y hY => aa ?_) | refine aa ?_ | refine ax ?_); (try clear hK' K'); (try dsimp only [aop]); try simp only [go_sem,↓reduceIte,Nat.reduceEqDiff,Nat.reduceLT,Nat.reduceLeDiff,Nat.reduceAdd,Nat.reduceSub,Nat.reduceMul,Nat.reduceBEq,Nat.reduceBNe,Nat.reducePow,Int.reduceToNat,Int.reduceLE,Int.reduceLT,Int.reduceMul,Int.reduceEq,Int.reducePow,Int.reduceAdd,Int.reduceSub,Int.reduceNeg,reduceCtorEq,ei,Tryz.results116,h']) | (with_reducible first | refine ag ?_ | refine am ?_ | refine aq ?_ | refine aG fun K hK => ?_ | refine az ?_ | refine bh ?_ | refine aB ?_) | (with_reducible refine hK _ ?_; clear hK K) | ((with_reducible refine ai ?_ ?_); (· decide)))
 ·rw [show max a b = b by omega]
  have h' : ((b : Int) < (a : Int)) = False := eq_false (by omega)
  refine aM [] Tryz.func116 rfl Tryz.ntmps116 (Nat.le_of_ble_eq_true rfl) (Nat.le_of_ble_eq_true rfl) fun w0 G0 B0 Pr hB0 => ?_
  simp only [aW,aL,List.cons_append,List.nil_append]
  repeat' (first | (with_reducible refine hY _ ?_; clear hY Y) | ((with_reducible first | refine au rfl (ay fun K' hK' => aa ?_) | refine hK' _ (ab fun Y hY => aa ?_) | refine ab fun Y hY => aa ?_ | refine ac tk0 ei (ab fun Y hY => aa ?_) | refine aa ?_ | refine ax ?_); (try clear hK' K'); (try dsimp only [aop]); try simp only [go_sem,↓reduceIte,Nat.reduceEqDiff,Nat.reduceLT,Nat.reduceLeDiff,Nat.reduceAdd,Nat.reduceSub,Nat.reduceMul,Nat.reduceBEq,Nat.reduceBNe,Nat.reducePow,Int.reduceToNat,Int.reduceLE,Int.reduceLT,Int.reduceMul,Int.reduceEq,Int.reducePow,Int.reduceAdd,Int.reduceSub,Int.reduceNeg,reduceCtorEq,ei,Tryz.results116,h']) | (with_reducible first | refine ag ?_ | refine am ?_ | refine aq ?_ | refine aG fun K hK => ?_ | refine aA ?_ | refine aH ?_ | refine aB ?_) | (with_reducible refine hK _ ?_; clear hK K) | ((with_reducible refine ai ?_ ?_); (· decide)))
theorem dp {n : Nat} (h : n ≤ 140737488351232) : IntKind.i64.wrap ((n : Int) + 1) = ((n + 1 : Nat) : Int) := by rw [cF (by omega) (by omega)]; rfl
def bD : Nat → List Nat
 | 0 => [0,1]
 | 1 => [1,2]
 | 2 => [1,2,5]
 | 3 => [1,2,5,6]
 | 4 => [1,2,5,6]
 | 5 => [1,2,5,6]
 | 6 => [5]
 | _ => []
set_option maxRecDepth 100000 in
set_option maxHeartbeats 4000000 in
theorem tV (b : Nat) (hb : b ≤ 100) (h : 0 < b → ∀ e,OkE e → AFn Tryz.prog 118 [.agg (peA e),inA ((b - 1 : Nat) : Int)] [] (inA (dE (b - 1) e : Int)) []) (e : PE) (ho : OkE e) :
  AFn Tryz.prog 118 [.agg (peA e),inA (b : Int)] [] (inA (dE b e : Int)) [] := by
 obtain ⟨ek,en,ex,l⟩ := e
 obtain ⟨_,_,_,hl,ho⟩ := ho
 unfold Lg at hl
 simp only [peA]
 by_cases hb0 : b = 0
 ·subst hb0
  have h0 : dE 0 (.mk ek en ex l) = 1 := rfl
  rw [h0]
  by_cases hlt : 0 < l.length
  ·have hlt' : ((0 : Int) < (l.length : Int)) = True := eq_true (by omega)
   refine aM [] Tryz.func118 rfl Tryz.ntmps118 (Nat.le_of_ble_eq_true rfl) (Nat.le_of_ble_eq_true rfl) fun w0 G0 B0 Pr hB0 => ?_
   simp only [aW,aL,List.cons_append,List.nil_append]
   repeat' (first | (with_reducible refine hY _ ?_; clear hY Y) | ((with_reducible first | refine au rfl (ay fun K' hK' => aa ?_) | refine hK' _ (ab fun Y hY => aa ?_) | refine ac tk0 bD (ab fun Y hY => aa ?_)); (try clear hK' K'); (try dsimp only [aop]); try simp only [go_sem,↓reduceIte,Nat.reduceEqDiff,Nat.reduceLT,Nat.reduceLeDiff,Nat.reduceAdd,Nat.reduceSub,Nat.reduceMul,Nat.reduceBEq,Nat.reduceBNe,Nat.reducePow,Int.reduceToNat,Int.reduceLE,Int.reduceLT,Int.reduceMul,Int.reduceEq,Int.reducePow,Int.reduceAdd,Int.reduceSub,Int.reduceNeg,reduceCtorEq,bD,Tryz.results118]) | (with_reducible first | refine ag ?_ | refine am ?_ | refine aq ?_ | refine aG fun K hK => ?_ | refine av ?_ | refine bR ?_) | (with_reducible refine hK _ ?_; clear hK K))
   refine bX (α := Unit) (fun _ => [(1,inA ((0 : Nat) : Int)),(2,.loc 10002 0),(5,inA 0),(6,inA 0),(10002,.bc [inA ek,inA en,bs ex,.sl (cl l) l.length .none] 47)])
    (fun _ => True) (fun _ => 0) () [1,2,5,6] ?_ trivial ?_
   ·simp only [go_sem,↓reduceIte,Nat.reduceEqDiff,Nat.reduceLT,Nat.reduceLeDiff,Nat.reduceAdd,Nat.reduceSub,Nat.reduceMul,Nat.reduceBEq,Nat.reduceBNe,Nat.reducePow,Int.reduceToNat,Int.reduceLE,Int.reduceLT,Int.reduceMul,Int.reduceEq,Int.reducePow,Int.reduceAdd,Int.reduceSub,Int.reduceNeg,reduceCtorEq] <;> rfl
   intro _ _ ih
   repeat' (first | (with_reducible refine hY _ ?_; clear hY Y) | ((with_reducible first | refine au rfl (ay fun K' hK' => aa ?_) | refine hK' _ (ab fun Y hY => aa ?_) | refine bf rfl (ab fun Y hY => aa ?_) | refine ab fun Y hY => aa ?_ | refine ay fun K' hK' => aa ?_ | refine ac tk0 bD (ab fun Y hY => aa ?_) | refine aa ?_ | refine ax ?_); (try clear hK' K'); (try dsimp only [aop]); try simp only [go_sem,↓reduceIte,Nat.reduceEqDiff,Nat.reduceLT,Nat.reduceLeDiff,Nat.reduceAdd,Nat.reduceSub,Nat.reduceMul,Nat.reduceBEq,Nat.reduceBNe,Nat.reducePow,Int.reduceToNat,Int.reduceLE,Int.reduceLT,Int.reduceMul,Int.reduceEq,Int.reducePow,Int.reduceAdd,Int.reduceSub,Int.reduceNeg,reduceCtorEq,bD,Tryz.results118,hlt']) | (with_reducible first | refine ag ?_ | refine aK ?_ | refine am ?_ | refine aq ?_ | refine aG fun K hK => ?_ | refine bY ?_ | refine bF ?_ | refine aB ?_ | refine bE ?_) | (with_reducible refine hK _ ?_; clear hK K) | ((with_reducible first | refine aJ ?_ ?_ | refine ai ?_ ?_); (· decide)) | ((with_reducible refine fi (fun hc => ?_) (fun hc => ?_)) <;> (try simp only [decide_eq_true_eq,decide_eq_false_iff_not,Bool.not_true,Bool.not_false,Bool.not_eq_true',Bool.not_eq_false'] at hc) <;> (try (exfalso; omega))))
   rfl
  ·have hlt' : ((0 : Int) < (l.length : Int)) = False := eq_false (by omega)
   refine aM [] Tryz.func118 rfl Tryz.ntmps118 (Nat.le_of_ble_eq_true rfl) (Nat.le_of_ble_eq_true rfl) fun w0 G0 B0 Pr hB0 => ?_
   simp only [aW,aL,List.cons_append,List.nil_append]
   repeat' (first | (with_reducible refine hY _ ?_; clear hY Y) | ((with_reducible first | refine au rfl (ay fun K' hK' => aa ?_) | refine hK' _ (ab fun Y hY => aa ?_) | refine ac tk0 bD (ab fun Y hY => aa ?_)); (try clear hK' K'); (try dsimp only [aop]); try simp only [go_sem,↓reduceIte,Nat.reduceEqDiff,Nat.reduceLT,Nat.reduceLeDiff,Nat.reduceAdd,Nat.reduceSub,Nat.reduceMul,Nat.reduceBEq,Nat.reduceBNe,Nat.reducePow,Int.reduceToNat,Int.reduceLE,Int.reduceLT,Int.reduceMul,Int.reduceEq,Int.reducePow,Int.reduceAdd,Int.reduceSub,Int.reduceNeg,reduceCtorEq,bD,Tryz.results118]) | (with_reducible first | refine ag ?_ | refine am ?_ | refine aq ?_ | refine aG fun K hK => ?_ | refine av ?_ | refine bR ?_) | (with_reducible refine hK _ ?_; clear hK K))
   refine bX (α := Unit) (fun _ => [(1,inA ((0 : Nat) : Int)),(2,.loc 10002 0),(5,inA 0),(6,inA 0),(10002,.bc [inA ek,inA en,bs ex,.sl (cl l) l.length .none] 47)])
    (fun _ => True) (fun _ => 0) () [1,2,5,6] ?_ trivial ?_
   ·simp only [go_sem,↓reduceIte,Nat.reduceEqDiff,Nat.reduceLT,Nat.reduceLeDiff,Nat.reduceAdd,Nat.reduceSub,Nat.reduceMul,Nat.reduceBEq,Nat.reduceBNe,Nat.reducePow,Int.reduceToNat,Int.reduceLE,Int.reduceLT,Int.reduceMul,Int.reduceEq,Int.reducePow,Int.reduceAdd,Int.reduceSub,Int.reduceNeg,reduceCtorEq] <;> rfl
   intro _ _ ih
   repeat' (first | (with_reducible refine hY _ ?_; clear hY Y) | ((with_reducible first | refine au rfl (ay fun K' hK' => aa ?_) | refine hK' _ (ab fun Y hY => aa ?_) | refine bf rfl (ab fun Y hY => aa ?_) | refine ab fun Y hY => aa ?_ | refine ac tk0 bD (ab fun Y hY => aa ?_) | refine aa ?_ | refine ax ?_); (try clear hK' K'); (try dsimp only [aop]); try simp only [go_sem,↓reduceIte,Nat.reduceEqDiff,Nat.reduceLT,Nat.reduceLeDiff,Nat.reduceAdd,Nat.reduceSub,Nat.reduceMul,Nat.reduceBEq,Nat.reduceBNe,Nat.reducePow,Int.reduceToNat,Int.reduceLE,Int.reduceLT,Int.reduceMul,Int.reduceEq,Int.reducePow,Int.reduceAdd,Int.reduceSub,Int.reduceNeg,reduceCtorEq,bD,Tryz.results118,hlt']) | (with_reducible first | refine ag ?_ | refine aU rfl ?_ | refine cN ?_ ?_ | refine am ?_ | refine aq ?_ | refine aG fun K hK => ?_ | refine aA ?_ | refine bY ?_ | refine bF ?_ | refine aB ?_ | refine bE ?_) | (with_reducible refine hK _ ?_; clear hK K) | ((with_reducible first | refine aJ ?_ ?_ | refine ai ?_ ?_); (· decide)))
   rfl
 obtain ⟨c,rfl⟩ : ∃ c,b = c + 1 := ⟨b - 1,by omega⟩
 have h := h (by omega)
 simp only [Nat.add_sub_cancel] at h
 obtain ⟨n,hn⟩ : ∃ n : Int,n = ((c + 1 : Nat) : Int) := ⟨_,rfl⟩
 rw [← hn]
 have hn0 : (0 < n) = True := eq_true (by omega)
 have hnw : IntKind.i64.wrap (n - 1) = (c : Int) := by rw [cF (by omega) (by omega)]; omega
 refine aM [] Tryz.func118 rfl Tryz.ntmps118 (Nat.le_of_ble_eq_true rfl) (Nat.le_of_ble_eq_true rfl) fun w0 G0 B0 Pr hB0 => ?_
 simp only [aW,aL,List.cons_append,List.nil_append]
 repeat' (first | (with_reducible refine hY _ ?_; clear hY Y) | ((with_reducible first | refine au rfl (ay fun K' hK' => aa ?_) | refine hK' _ (ab fun Y hY => aa ?_) | refine ac tk0 bD (ab fun Y hY => aa ?_)); (try clear hK' K'); (try dsimp only [aop]); try simp only [go_sem,↓reduceIte,Nat.reduceEqDiff,Nat.reduceLT,Nat.reduceLeDiff,Nat.reduceAdd,Nat.reduceSub,Nat.reduceMul,Nat.reduceBEq,Nat.reduceBNe,Nat.reducePow,Int.reduceToNat,Int.reduceLE,Int.reduceLT,Int.reduceMul,Int.reduceEq,Int.reducePow,Int.reduceAdd,Int.reduceSub,Int.reduceNeg,reduceCtorEq,bD,Tryz.results118]) | (with_reducible first | refine ag ?_ | refine am ?_ | refine aq ?_ | refine aG fun K hK => ?_ | refine av ?_ | refine bR ?_) | (with_reducible refine hK _ ?_; clear hK K))
 refine bX (α := Nat) (fun k => [(1,inA n),(2,.loc 10002 0),(5,inA (mxN ((l.take k).map (dE c)) : Int)),(6,inA (k : Int)),(10002,.bc [inA ek,inA en,bs ex,.sl (cl l) l.length .none] 47)])
  (fun k => k ≤ l.length) (fun k => l.length - k) 0 [1,2,5,6] ?_ (Nat.zero_le _) ?_
 ·simp only [go_sem,↓reduceIte,Nat.reduceEqDiff,Nat.reduceLT,Nat.reduceLeDiff,Nat.reduceAdd,Nat.reduceSub,Nat.reduceMul,Nat.reduceBEq,Nat.reduceBNe,Nat.reducePow,Int.reduceToNat,Int.reduceLE,Int.reduceLT,Int.reduceMul,Int.reduceEq,Int.reducePow,Int.reduceAdd,Int.reduceSub,Int.reduceNeg,reduceCtorEq] <;> rfl
 intro k hk ih
 have hkw := dp (n := k) (by omega)
 by_cases hlt : k < l.length
 ·have hlt' : ((k : Int) < (l.length : Int)) = True := eq_true (by omega)
  have hg0 := lj hlt
  have hfl := iH l
  have hm := jD (dE c) hlt
  have h1 := h l[k] (iR ho l[k] (List.getElem_mem hlt))
  generalize l[k] = t at *
  have h2 := jT (mxN ((l.take k).map (dE c))) (dE c t)
  rw [← hm] at h2
  obtain ⟨tk,tn,tx,ts⟩ := t
  simp only [peA] at hg0 h1
  generalize dE c (.mk tk tn tx ts) = q at *
  repeat' (first | (with_reducible refine hY _ ?_; clear hY Y) | ((with_reducible first | refine au rfl (ay fun K' hK' => aa ?_) | refine hK' _ (ab fun Y hY => aa ?_) | refine bf rfl (ab fun Y hY => aa ?_) | refine ab fun Y hY => aa ?_ | refine ay fun K' hK' => aa ?_ | refine ac tk0 bD (ab fun Y hY => aa ?_) | refine aa ?_); (try clear hK' K'); (try dsimp only [aop]); try simp only [go_sem,↓reduceIte,Nat.reduceEqDiff,Nat.reduceLT,Nat.reduceLeDiff,Nat.reduceAdd,Nat.reduceSub,Nat.reduceMul,Nat.reduceBEq,Nat.reduceBNe,Nat.reducePow,Int.reduceToNat,Int.reduceLE,Int.reduceLT,Int.reduceMul,Int.reduceEq,Int.reducePow,Int.reduceAdd,Int.reduceSub,Int.reduceNeg,reduceCtorEq,bD,Tryz.results118,hlt',hn0,hnw,hfl,hg0,hkw]) | (with_reducible first | refine ag ?_ | refine aK ?_ | refine am ?_ | refine aq ?_ | refine aG fun K hK => ?_ | refine az ?_ | refine ba ?_ | refine av ?_ | refine aH ?_) | (with_reducible refine hK _ ?_; clear hK K) | ((with_reducible first | refine aJ ?_ ?_ | refine ai ?_ ?_); (· decide)) | (with_reducible refine bm ?_ ?_; (· (try and_intros) <;> first | omega | assumption | (simp only [List.length_append,List.length_map,List.length_cons,List.length_nil] <;> omega))) | (with_reducible refine ae (h1) ?_) | (with_reducible refine ae (h2) ?_))
  refine bg [1,2,5,6] (by simp only [go_sem,↓reduceIte,Nat.reduceEqDiff,Nat.reduceLT,Nat.reduceLeDiff,Nat.reduceAdd,Nat.reduceSub,Nat.reduceMul,Nat.reduceBEq,Nat.reduceBNe,Nat.reducePow,Int.reduceToNat,Int.reduceLE,Int.reduceLT,Int.reduceMul,Int.reduceEq,Int.reducePow,Int.reduceAdd,Int.reduceSub,Int.reduceNeg,reduceCtorEq]; exact rfl) ?_
  exact ih (k + 1) (by omega) (by omega)
 ·have hlt' : ((k : Int) < (l.length : Int)) = False := eq_false (by omega)
  obtain rfl : k = l.length := by omega
  have hdw := dp (n := mxN (l.map (dE c))) (by have := iQ (jb c) l; omega)
  rw [List.take_length]
  repeat' (first | (with_reducible refine hY _ ?_; clear hY Y) | ((with_reducible first | refine au rfl (ay fun K' hK' => aa ?_) | refine hK' _ (ab fun Y hY => aa ?_) | refine bf rfl (ab fun Y hY => aa ?_) | refine ab fun Y hY => aa ?_ | refine ac tk0 bD (ab fun Y hY => aa ?_) | refine aa ?_ | refine ax ?_); (try clear hK' K'); (try dsimp only [aop]); try simp only [go_sem,↓reduceIte,Nat.reduceEqDiff,Nat.reduceLT,Nat.reduceLeDiff,Nat.reduceAdd,Nat.reduceSub,Nat.reduceMul,Nat.reduceBEq,Nat.reduceBNe,Nat.reducePow,Int.reduceToNat,Int.reduceLE,Int.reduceLT,Int.reduceMul,Int.reduceEq,Int.reducePow,Int.reduceAdd,Int.reduceSub,Int.reduceNeg,reduceCtorEq,bD,Tryz.results118,hlt',hdw]) | (with_reducible first | refine ag ?_ | refine aU rfl ?_ | refine cN ?_ ?_ | refine am ?_ | refine aq ?_ | refine aG fun K hK => ?_ | refine aA ?_ | refine bY ?_ | refine bF ?_ | refine aB ?_ | refine bE ?_) | (with_reducible refine hK _ ?_; clear hK K) | ((with_reducible first | refine aJ ?_ ?_ | refine ai ?_ ?_); (· decide)))
  rw [dE]
theorem iJ : ∀ (b : Nat),b ≤ 100 → ∀ e,OkE e → AFn Tryz.prog 118 [.agg (peA e),inA (b : Int)] [] (inA (dE b e : Int)) []
 | 0,hb,e,ho => tV 0 hb (fun h => absurd h (Nat.lt_irrefl 0)) e ho
 | b + 1,hb,e,ho => tV (b + 1) hb (fun _ => iJ b (by omega)) e ho
def bu : Nat → List Nat
 | 0 => [0,1]
 | 1 => [1,2]
 | 2 => [1,2,5]
 | 3 => [1,2,5,6]
 | 4 => [1,2,5,6]
 | 5 => [1,2,5,6]
 | 6 => [1,2,5]
 | 7 => [1,2,5,7]
 | 8 => [1,2,5,7]
 | 9 => [1,2,5,7]
 | 10 => [5]
 | _ => []
set_option maxRecDepth 100000 in
set_option maxHeartbeats 8000000 in
theorem yn (c : Nat) (hb : c ≤ 100) (h : ∀ e,OkC e → AFn Tryz.prog 117 [.agg (ci e),inA (c : Int)] [] (inA (dC c e : Int)) []) (e : PC) (ho : OkC e) (n : Int) (hn : n = ((c + 1 : Nat) : Int)) :
  AFn Tryz.prog 117 [.agg (ci e),inA n] [] (inA (dC (c + 1) e : Int)) [] := by
 obtain ⟨ek,es,ks⟩ := e
 obtain ⟨_,⟨hes,heo⟩,hks,hko⟩ := ho
 unfold Lg at hes hks
 simp only [ci]
 have hn0 : (0 < n) = True := eq_true (by omega)
 have hnw : IntKind.i64.wrap (n - 1) = (c : Int) := by rw [cF (by omega) (by omega)]; omega
 refine aM [] Tryz.func117 rfl Tryz.ntmps117 (Nat.le_of_ble_eq_true rfl) (Nat.le_of_ble_eq_true rfl) fun w0 G0 B0 Pr hB0 => ?_
 simp only [aW,aL,List.cons_append,List.nil_append]
 repeat' (first | (with_reducible refine hY _ ?_; clear hY Y) | ((with_reducible first | refine au rfl (ay fun K' hK' => aa ?_) | refine hK' _ (ab fun Y hY => aa ?_) | refine ac tk0 bu (ab fun Y hY => aa ?_)); (try clear hK' K'); (try dsimp only [aop]); try simp only [go_sem,↓reduceIte,Nat.reduceEqDiff,Nat.reduceLT,Nat.reduceLeDiff,Nat.reduceAdd,Nat.reduceSub,Nat.reduceMul,Nat.reduceBEq,Nat.reduceBNe,Nat.reducePow,Int.reduceToNat,Int.reduceLE,Int.reduceLT,Int.reduceMul,Int.reduceEq,Int.reducePow,Int.reduceAdd,Int.reduceSub,Int.reduceNeg,reduceCtorEq,bu,Tryz.results117]) | (with_reducible first | refine ag ?_ | refine am ?_ | refine aq ?_ | refine aG fun K hK => ?_ | refine av ?_ | refine bR ?_) | (with_reducible refine hK _ ?_; clear hK K))
 refine bX (α := Nat) (fun k => [(1,inA n),(2,.loc 10002 0),(5,inA (mxN ((es.take k).map (dE c)) : Int)),(6,inA (k : Int)),(10002,.bc [inA ek,.sl (cl es) es.length .none,.sl (dc ks) ks.length .none] 51)])
  (fun k => k ≤ es.length) (fun k => es.length - k) 0 [1,2,5,6] ?_ (Nat.zero_le _) ?_
 ·simp only [go_sem,↓reduceIte,Nat.reduceEqDiff,Nat.reduceLT,Nat.reduceLeDiff,Nat.reduceAdd,Nat.reduceSub,Nat.reduceMul,Nat.reduceBEq,Nat.reduceBNe,Nat.reducePow,Int.reduceToNat,Int.reduceLE,Int.reduceLT,Int.reduceMul,Int.reduceEq,Int.reducePow,Int.reduceAdd,Int.reduceSub,Int.reduceNeg,reduceCtorEq] <;> rfl
 intro k hk ih
 have hkw := dp (n := k) (by omega)
 by_cases hlt : k < es.length
 ·have hlt' : ((k : Int) < (es.length : Int)) = True := eq_true (by omega)
  have hg0 := lj hlt
  have hfl := iH es
  have hm := jD (dE c) hlt
  have h1 := iJ c hb es[k] (iR heo es[k] (List.getElem_mem hlt))
  generalize es[k] = t at *
  have h2 := jT (mxN ((es.take k).map (dE c))) (dE c t)
  rw [← hm] at h2
  obtain ⟨tk,tn,tx,ts⟩ := t
  simp only [peA] at hg0 h1
  generalize dE c (.mk tk tn tx ts) = q at *
  repeat' (first | (with_reducible refine hY _ ?_; clear hY Y) | ((with_reducible first | refine au rfl (ay fun K' hK' => aa ?_) | refine hK' _ (ab fun Y hY => aa ?_) | refine bf rfl (ab fun Y hY => aa ?_) | refine ab fun Y hY => aa ?_ | refine ay fun K' hK' => aa ?_ | refine ac tk0 bu (ab fun Y hY => aa ?_) | refine aa ?_); (try clear hK' K'); (try dsimp only [aop]); try simp only [go_sem,↓reduceIte,Nat.reduceEqDiff,Nat.reduceLT,Nat.reduceLeDiff,Nat.reduceAdd,Nat.reduceSub,Nat.reduceMul,Nat.reduceBEq,Nat.reduceBNe,Nat.reducePow,Int.reduceToNat,Int.reduceLE,Int.reduceLT,Int.reduceMul,Int.reduceEq,Int.reducePow,Int.reduceAdd,Int.reduceSub,Int.reduceNeg,reduceCtorEq,bu,Tryz.results117,hlt',hn0,hnw,hfl,hg0,hkw]) | (with_reducible first | refine ag ?_ | refine aK ?_ | refine am ?_ | refine aq ?_ | refine aG fun K hK => ?_ | refine az ?_ | refine ba ?_ | refine av ?_ | refine aH ?_) | (with_reducible refine hK _ ?_; clear hK K) | ((with_reducible first | refine aJ ?_ ?_ | refine ai ?_ ?_); (· decide)) | (with_reducible refine bm ?_ ?_; (· (try and_intros) <;> first | omega | assumption | (simp only [List.length_append,List.length_map,List.length_cons,List.length_nil] <;> omega))) | (with_reducible refine ae (h1) ?_) | (with_reducible refine ae (h2) ?_))
  refine bg [1,2,5,6] (by simp only [go_sem,↓reduceIte,Nat.reduceEqDiff,Nat.reduceLT,Nat.reduceLeDiff,Nat.reduceAdd,Nat.reduceSub,Nat.reduceMul,Nat.reduceBEq,Nat.reduceBNe,Nat.reducePow,Int.reduceToNat,Int.reduceLE,Int.reduceLT,Int.reduceMul,Int.reduceEq,Int.reducePow,Int.reduceAdd,Int.reduceSub,Int.reduceNeg,reduceCtorEq]; exact rfl) ?_
  exact ih (k + 1) (by omega) (by omega)
 have hlt' : ((k : Int) < (es.length : Int)) = False := eq_false (by omega)
 obtain rfl : k = es.length := by omega
 rw [List.take_length]
 clear ih hk hkw
 have hm1 := iQ (jb c) es
 rw [dC]
 generalize mxN (es.map (dE c)) = M at *
 repeat' (first | (with_reducible refine hY _ ?_; clear hY Y) | ((with_reducible first | refine au rfl (ay fun K' hK' => aa ?_) | refine hK' _ (ab fun Y hY => aa ?_) | refine bf rfl (ab fun Y hY => aa ?_) | refine ab fun Y hY => aa ?_ | refine ac tk0 bu (ab fun Y hY => aa ?_) | refine aa ?_); (try clear hK' K'); (try dsimp only [aop]); try simp only [go_sem,↓reduceIte,Nat.reduceEqDiff,Nat.reduceLT,Nat.reduceLeDiff,Nat.reduceAdd,Nat.reduceSub,Nat.reduceMul,Nat.reduceBEq,Nat.reduceBNe,Nat.reducePow,Int.reduceToNat,Int.reduceLE,Int.reduceLT,Int.reduceMul,Int.reduceEq,Int.reducePow,Int.reduceAdd,Int.reduceSub,Int.reduceNeg,reduceCtorEq,bu,Tryz.results117,hlt']) | (with_reducible first | refine ag ?_ | refine aU rfl ?_ | refine cN ?_ ?_ | refine am ?_ | refine aq ?_ | refine aG fun K hK => ?_ | refine aA ?_ | refine bY ?_ | refine bF ?_ | refine av ?_ | refine bE ?_ | refine bR ?_) | (with_reducible refine hK _ ?_; clear hK K) | ((with_reducible first | refine aJ ?_ ?_ | refine ai ?_ ?_); (· decide)))
 refine bX (α := Nat) (fun k => [(1,inA n),(2,.loc 10002 0),(5,inA (max M (mxN ((ks.take k).map (dC c))) : Nat)),(7,inA (k : Int)),(10002,.bc [inA ek,.sl (cl es) es.length .none,.sl (dc ks) ks.length .none] 51)])
  (fun k => k ≤ ks.length) (fun k => ks.length - k) 0 [1,2,5,7] ?_ (Nat.zero_le _) ?_
 ·simp only [go_sem,↓reduceIte,Nat.reduceEqDiff,Nat.reduceLT,Nat.reduceLeDiff,Nat.reduceAdd,Nat.reduceSub,Nat.reduceMul,Nat.reduceBEq,Nat.reduceBNe,Nat.reducePow,Int.reduceToNat,Int.reduceLE,Int.reduceLT,Int.reduceMul,Int.reduceEq,Int.reducePow,Int.reduceAdd,Int.reduceSub,Int.reduceNeg,reduceCtorEq] <;> simp [mxN]
 intro k hk ih
 have hkw := dp (n := k) (by omega)
 clear hlt' hlt
 by_cases hlt : k < ks.length
 ·have hlt' : ((k : Int) < (ks.length : Int)) = True := eq_true (by omega)
  have hg0 := pf hlt
  have hfl := jZ ks
  have hm := jD (dC c) hlt
  have h1 := h ks[k] (lh hko ks[k] (List.getElem_mem hlt))
  generalize ks[k] = t at *
  have h2 := jT (max M (mxN ((ks.take k).map (dC c)))) (dC c t)
  rw [show max (max M (mxN ((ks.take k).map (dC c)))) (dC c t) = max M (mxN ((ks.take (k + 1)).map (dC c))) by rw [hm]; omega] at h2
  obtain ⟨tk,te,ts⟩ := t
  simp only [ci] at hg0 h1
  generalize dC c (.mk tk te ts) = q at *
  repeat' (first | (with_reducible refine hY _ ?_; clear hY Y) | ((with_reducible first | refine au rfl (ay fun K' hK' => aa ?_) | refine hK' _ (ab fun Y hY => aa ?_) | refine bf rfl (ab fun Y hY => aa ?_) | refine ab fun Y hY => aa ?_ | refine ay fun K' hK' => aa ?_ | refine ac tk0 bu (ab fun Y hY => aa ?_) | refine aa ?_); (try clear hK' K'); (try dsimp only [aop]); try simp only [go_sem,↓reduceIte,Nat.reduceEqDiff,Nat.reduceLT,Nat.reduceLeDiff,Nat.reduceAdd,Nat.reduceSub,Nat.reduceMul,Nat.reduceBEq,Nat.reduceBNe,Nat.reducePow,Int.reduceToNat,Int.reduceLE,Int.reduceLT,Int.reduceMul,Int.reduceEq,Int.reducePow,Int.reduceAdd,Int.reduceSub,Int.reduceNeg,reduceCtorEq,bu,Tryz.results117,hlt',hn0,hnw,hfl,hg0,hkw]) | (with_reducible first | refine ag ?_ | refine aK ?_ | refine am ?_ | refine aq ?_ | refine aG fun K hK => ?_ | refine az ?_ | refine ba ?_ | refine av ?_ | refine aH ?_) | (with_reducible refine hK _ ?_; clear hK K) | ((with_reducible first | refine aJ ?_ ?_ | refine ai ?_ ?_); (· decide)) | (with_reducible refine bm ?_ ?_; (· (try and_intros) <;> first | omega | assumption | (simp only [List.length_append,List.length_map,List.length_cons,List.length_nil] <;> omega))) | (with_reducible refine ae (h1) ?_) | (with_reducible refine ae (h2) ?_))
  refine bg [1,2,5,7] (by simp only [go_sem,↓reduceIte,Nat.reduceEqDiff,Nat.reduceLT,Nat.reduceLeDiff,Nat.reduceAdd,Nat.reduceSub,Nat.reduceMul,Nat.reduceBEq,Nat.reduceBNe,Nat.reducePow,Int.reduceToNat,Int.reduceLE,Int.reduceLT,Int.reduceMul,Int.reduceEq,Int.reducePow,Int.reduceAdd,Int.reduceSub,Int.reduceNeg,reduceCtorEq]; exact rfl) ?_
  exact ih (k + 1) (by omega) (by omega)
 have hlt' : ((k : Int) < (ks.length : Int)) = False := eq_false (by omega)
 obtain rfl : k = ks.length := by omega
 rw [List.take_length]
 have hm2 := iQ (rz c) ks
 generalize mxN (ks.map (dC c)) = K2 at *
 have hdw := dp (n := max M K2) (by omega)
 repeat' (first | (with_reducible refine hY _ ?_; clear hY Y) | ((with_reducible first | refine au rfl (ay fun K' hK' => aa ?_) | refine hK' _ (ab fun Y hY => aa ?_) | refine bf rfl (ab fun Y hY => aa ?_) | refine ab fun Y hY => aa ?_ | refine ac tk0 bu (ab fun Y hY => aa ?_) | refine aa ?_ | refine ax ?_); (try clear hK' K'); (try dsimp only [aop]); try simp only [go_sem,↓reduceIte,Nat.reduceEqDiff,Nat.reduceLT,Nat.reduceLeDiff,Nat.reduceAdd,Nat.reduceSub,Nat.reduceMul,Nat.reduceBEq,Nat.reduceBNe,Nat.reducePow,Int.reduceToNat,Int.reduceLE,Int.reduceLT,Int.reduceMul,Int.reduceEq,Int.reducePow,Int.reduceAdd,Int.reduceSub,Int.reduceNeg,reduceCtorEq,bu,Tryz.results117,hlt',hdw]) | (with_reducible first | refine ag ?_ | refine aU rfl ?_ | refine cN ?_ ?_ | refine am ?_ | refine aq ?_ | refine aG fun K hK => ?_ | refine aA ?_ | refine bY ?_ | refine bF ?_ | refine aB ?_ | refine bE ?_) | (with_reducible refine hK _ ?_; clear hK K) | ((with_reducible first | refine aJ ?_ ?_ | refine ai ?_ ?_); (· decide)))
set_option maxRecDepth 100000 in
set_option maxHeartbeats 4000000 in
theorem yp (e : PC) : AFn Tryz.prog 117 [.agg (ci e),inA 0] [] (inA 1) [] := by
 obtain ⟨ek,es,ks⟩ := e
 simp only [ci]
 refine aM [] Tryz.func117 rfl Tryz.ntmps117 (Nat.le_of_ble_eq_true rfl) (Nat.le_of_ble_eq_true rfl) fun w0 G0 B0 Pr hB0 => ?_
 simp only [aW,aL,List.cons_append,List.nil_append]
 repeat' (first | (with_reducible refine hY _ ?_; clear hY Y) | ((with_reducible first | refine au rfl (ay fun K' hK' => aa ?_) | refine hK' _ (ab fun Y hY => aa ?_) | refine ac tk0 bu (ab fun Y hY => aa ?_)); (try clear hK' K'); (try dsimp only [aop]); try simp only [go_sem,↓reduceIte,Nat.reduceEqDiff,Nat.reduceLT,Nat.reduceLeDiff,Nat.reduceAdd,Nat.reduceSub,Nat.reduceMul,Nat.reduceBEq,Nat.reduceBNe,Nat.reducePow,Int.reduceToNat,Int.reduceLE,Int.reduceLT,Int.reduceMul,Int.reduceEq,Int.reducePow,Int.reduceAdd,Int.reduceSub,Int.reduceNeg,reduceCtorEq,bu,Tryz.results117]) | (with_reducible first | refine ag ?_ | refine am ?_ | refine aq ?_ | refine aG fun K hK => ?_ | refine av ?_ | refine bR ?_) | (with_reducible refine hK _ ?_; clear hK K))
 refine bX (α := Unit) (fun _ => [(1,inA 0),(2,.loc 10002 0),(5,inA 0),(6,inA 0),(10002,.bc [inA ek,.sl (cl es) es.length .none,.sl (dc ks) ks.length .none] 51)]) (fun _ => True) (fun _ => 0) () [1,2,5,6] ?_ trivial ?_
 ·simp only [go_sem,↓reduceIte,Nat.reduceEqDiff,Nat.reduceLT,Nat.reduceLeDiff,Nat.reduceAdd,Nat.reduceSub,Nat.reduceMul,Nat.reduceBEq,Nat.reduceBNe,Nat.reducePow,Int.reduceToNat,Int.reduceLE,Int.reduceLT,Int.reduceMul,Int.reduceEq,Int.reducePow,Int.reduceAdd,Int.reduceSub,Int.reduceNeg,reduceCtorEq] <;> rfl
 intro _ _ ih
 clear ih
 repeat' (first | (with_reducible refine hY _ ?_; clear hY Y) | ((with_reducible first | refine au rfl (ay fun K' hK' => aa ?_) | refine hK' _ (ab fun Y hY => aa ?_) | refine bf rfl (ab fun Y hY => aa ?_) | refine ab fun Y hY => aa ?_ | refine ay fun K' hK' => aa ?_ | refine ac tk0 bu (ab fun Y hY => aa ?_) | refine aa ?_); (try clear hK' K'); (try dsimp only [aop]); try simp only [go_sem,↓reduceIte,Nat.reduceEqDiff,Nat.reduceLT,Nat.reduceLeDiff,Nat.reduceAdd,Nat.reduceSub,Nat.reduceMul,Nat.reduceBEq,Nat.reduceBNe,Nat.reducePow,Int.reduceToNat,Int.reduceLE,Int.reduceLT,Int.reduceMul,Int.reduceEq,Int.reducePow,Int.reduceAdd,Int.reduceSub,Int.reduceNeg,reduceCtorEq,bu,Tryz.results117]) | (with_reducible first | refine ag ?_ | refine aU rfl ?_ | refine aK ?_ | refine cN ?_ ?_ | refine am ?_ | refine aq ?_ | refine aG fun K hK => ?_ | refine aA ?_ | refine bY ?_ | refine bF ?_ | refine av ?_ | refine bE ?_ | refine bR ?_) | (with_reducible refine hK _ ?_; clear hK K) | ((with_reducible first | refine aJ ?_ ?_ | refine ai ?_ ?_); (· decide)) | ((with_reducible refine bP (fun hc => ?_) (fun hc => ?_)) <;> (try simp only [decide_eq_true_eq,decide_eq_false_iff_not,Bool.not_true,Bool.not_false,Bool.not_eq_true',Bool.not_eq_false'] at hc) <;> (try (exfalso; omega))))
 all_goals
  refine bX (α := Unit) (fun _ => [(1,inA 0),(2,.loc 10002 0),(5,inA 0),(7,inA 0),(10002,.bc [inA ek,.sl (cl es) es.length .none,.sl (dc ks) ks.length .none] 51)]) (fun _ => True) (fun _ => 0) () [1,2,5,7] ?_ trivial ?_
 all_goals first
  | (simp only [go_sem,↓reduceIte,Nat.reduceEqDiff,Nat.reduceLT,Nat.reduceLeDiff,Nat.reduceAdd,Nat.reduceSub,Nat.reduceMul,Nat.reduceBEq,Nat.reduceBNe,Nat.reducePow,Int.reduceToNat,Int.reduceLE,Int.reduceLT,Int.reduceMul,Int.reduceEq,Int.reducePow,Int.reduceAdd,Int.reduceSub,Int.reduceNeg,reduceCtorEq] <;> rfl)
  | skip
 all_goals intro _ _ ih
 all_goals clear ih
 all_goals
  repeat' (first | (with_reducible refine hY _ ?_; clear hY Y) | ((with_reducible first | refine au rfl (ay fun K' hK' => aa ?_) | refine hK' _ (ab fun Y hY => aa ?_) | refine bf rfl (ab fun Y hY => aa ?_) | refine ab fun Y hY => aa ?_ | refine ay fun K' hK' => aa ?_ | refine ac tk0 bu (ab fun Y hY => aa ?_) | refine aa ?_ | refine ax ?_); (try clear hK' K'); (try dsimp only [aop]); try simp only [go_sem,↓reduceIte,Nat.reduceEqDiff,Nat.reduceLT,Nat.reduceLeDiff,Nat.reduceAdd,Nat.reduceSub,Nat.reduceMul,Nat.reduceBEq,Nat.reduceBNe,Nat.reducePow,Int.reduceToNat,Int.reduceLE,Int.reduceLT,Int.reduceMul,Int.reduceEq,Int.reducePow,Int.reduceAdd,Int.reduceSub,Int.reduceNeg,reduceCtorEq,bu,Tryz.results117]) | (with_reducible first | refine ag ?_ | refine aU rfl ?_ | refine aK ?_ | refine cN ?_ ?_ | refine am ?_ | refine aq ?_ | refine aG fun K hK => ?_ | refine aA ?_ | refine bY ?_ | refine bF ?_ | refine aB ?_ | refine bE ?_) | (with_reducible refine hK _ ?_; clear hK K) | ((with_reducible first | refine aJ ?_ ?_ | refine ai ?_ ?_); (· decide)) | ((with_reducible refine bP (fun hc => ?_) (fun hc => ?_)) <;> (try simp only [decide_eq_true_eq,decide_eq_false_iff_not,Bool.not_true,Bool.not_false,Bool.not_eq_true',Bool.not_eq_false'] at hc) <;> (try (exfalso; omega))))
 all_goals rfl
theorem pM : ∀ (b : Nat),b ≤ 100 → ∀ e,OkC e → AFn Tryz.prog 117 [.agg (ci e),inA (b : Int)] [] (inA (dC b e : Int)) []
 | 0,hb,e,ho => yp e
 | b + 1,hb,e,ho => yn b (by omega) (pM b (by omega)) e ho _ rfl
def cq : Nat → List Nat
 | 0 => [0,1]
 | 1 => [1,2]
 | 2 => []
 | 3 => [1,2]
 | 4 => [1,2,5]
 | 5 => [1,2,5,6]
 | 6 => [1,2,5,6]
 | 7 => [1,2,5,6]
 | 8 => [5]
 | _ => []
set_option maxRecDepth 100000 in
set_option maxHeartbeats 8000000 in
theorem yl (c : Nat) (hb : c ≤ 100) (h : ∀ e,OkA e → AFn Tryz.prog 46 [.agg (paA e),inA (c : Int)] [] (inA (dA c e : Int)) []) (e : PA) (ho : OkA e) (n : Int) (hn : n = ((c + 1 : Nat) : Int)) :
  AFn Tryz.prog 46 [.agg (paA e),inA n] [] (inA (dA (c + 1) e : Int)) [] := by
 obtain ⟨ak,co,ex,vx,af,an,ks⟩ := e
 obtain ⟨_,hc,he,hv,_,_,hks,hko⟩ := ho
 unfold Lg at hks
 have hn0 : (n = 0) = False := eq_false (by omega)
 have hn1 : (n == 0) = false := by simp; omega
 have hnw : IntKind.i64.wrap (n - 1) = (c : Int) := by rw [cF (by omega) (by omega)]; omega
 have h1 := pM c hb co hc
 have h2 := iJ c hb ex he
 have h3 := iJ c hb vx hv
 have h4 := jT (dE c ex) (dE c vx)
 have h5 := jT (dC c co) (max (dE c ex) (dE c vx))
 have b1 := rz c co
 have b2 := jb c ex
 have b3 := jb c vx
 rw [dA]
 generalize dC c co = q1 at *
 generalize dE c ex = q2 at *
 generalize dE c vx = q3 at *
 obtain ⟨ck,ce,cks⟩ := co
 obtain ⟨ek,en,exn,eks⟩ := ex
 obtain ⟨vk,vn,vxn,vks⟩ := vx
 simp only [paA,ci,peA,List.cons_append,List.nil_append] at h1 h2 h3 ⊢
 obtain ⟨M,hM⟩ : ∃ M,M = max q1 (max q2 q3) := ⟨_,rfl⟩
 rw [← hM] at h5 ⊢
 refine aM [] Tryz.func46 rfl Tryz.ntmps46 (Nat.le_of_ble_eq_true rfl) (Nat.le_of_ble_eq_true rfl) fun w0 G0 B0 Pr hB0 => ?_
 simp only [aW,aL,List.cons_append,List.nil_append]
 repeat' (first | (with_reducible refine hY _ ?_; clear hY Y) | ((with_reducible first | refine au rfl (ay fun K' hK' => aa ?_) | refine hK' _ (ab fun Y hY => aa ?_) | refine ab fun Y hY => aa ?_ | refine ac tk0 cq (ab fun Y hY => aa ?_) | refine aa ?_ | refine cG rfl (cQ fun K' hK' => aa ?_) | refine hK' _ _ (ab fun Y hY => aa ?_)); (try clear hK' K'); (try dsimp only [aop]); try simp only [go_sem,↓reduceIte,Nat.reduceEqDiff,Nat.reduceLT,Nat.reduceLeDiff,Nat.reduceAdd,Nat.reduceSub,Nat.reduceMul,Nat.reduceBEq,Nat.reduceBNe,Nat.reducePow,Int.reduceToNat,Int.reduceLE,Int.reduceLT,Int.reduceMul,Int.reduceEq,Int.reducePow,Int.reduceAdd,Int.reduceSub,Int.reduceNeg,reduceCtorEq,cq,Tryz.results46,hn0,hn1,hnw]) | (with_reducible first | refine ag ?_ | refine am ?_ | refine aq ?_ | refine aG fun K hK => ?_ | refine aA ?_ | refine av ?_ | refine aH ?_ | refine bR ?_ | refine bK ?_ | refine ef fun K hK => ?_) | (with_reducible refine hK _ ?_; clear hK K) | (with_reducible refine hK _ _ ?_ ?_; (· kernel_rfl); clear hK K) | ((with_reducible refine ai ?_ ?_); (· decide)) | (with_reducible refine bV tk0 cq ?_ ?_; (· kernel_rfl)) | (with_reducible refine ae (h1) ?_) | (with_reducible refine ae (h2) ?_) | (with_reducible refine ae (h3) ?_) | (with_reducible refine ae (h4) ?_) | (with_reducible refine ae (h5) ?_))
 refine bX (α := Nat) (fun k => [(1,inA n),(2,.loc 10002 0),(5,inA (max M (mxN ((ks.take k).map (dA c))) : Nat)),(6,inA (k : Int)),(10002,.bc [inA ak,inA ck,.sl (cl ce) ce.length .none,.sl (dc cks) cks.length .none,inA ek,inA en,bs exn,.sl (cl eks) eks.length .none,inA vk,inA vn,bs vxn,.sl (cl vks) vks.length .none,bs af,inA an,.sl (ew ks) ks.length .none] 54)])
  (fun k => k ≤ ks.length) (fun k => ks.length - k) 0 [1,2,5,6] ?_ (Nat.zero_le _) ?_
 ·simp only [go_sem,↓reduceIte,Nat.reduceEqDiff,Nat.reduceLT,Nat.reduceLeDiff,Nat.reduceAdd,Nat.reduceSub,Nat.reduceMul,Nat.reduceBEq,Nat.reduceBNe,Nat.reducePow,Int.reduceToNat,Int.reduceLE,Int.reduceLT,Int.reduceMul,Int.reduceEq,Int.reducePow,Int.reduceAdd,Int.reduceSub,Int.reduceNeg,reduceCtorEq] <;> simp [mxN]
 intro k hk ih
 have hkw := dp (n := k) (by omega)
 clear h1 h2 h3 h4 h5
 by_cases hlt : k < ks.length
 ·have hlt' : ((k : Int) < (ks.length : Int)) = True := eq_true (by omega)
  have hg0 := qr hlt
  have hfl := ku ks
  have hm := jD (dA c) hlt
  have h1 := h ks[k] (lf hko ks[k] (List.getElem_mem hlt))
  generalize ks[k] = t at *
  have h2 := jT (max M (mxN ((ks.take k).map (dA c)))) (dA c t)
  rw [show max (max M (mxN ((ks.take k).map (dA c)))) (dA c t) = max M (mxN ((ks.take (k + 1)).map (dA c))) by rw [hm]; omega] at h2
  generalize dA c t = q at *
  obtain ⟨tk,⟨tck,tce,tcks⟩,⟨tek,ten,tex,teks⟩,⟨tvk,tvn,tvx,tvks⟩,tf,tn,tks⟩ := t
  simp only [paA,ci,peA,List.cons_append,List.nil_append] at hg0 h1
  repeat' (first | (with_reducible refine hY _ ?_; clear hY Y) | ((with_reducible first | refine au rfl (ay fun K' hK' => aa ?_) | refine hK' _ (ab fun Y hY => aa ?_) | refine ab fun Y hY => aa ?_ | refine ac tk0 cq (ab fun Y hY => aa ?_) | refine aa ?_); (try clear hK' K'); (try dsimp only [aop]); try simp only [go_sem,↓reduceIte,Nat.reduceEqDiff,Nat.reduceLT,Nat.reduceLeDiff,Nat.reduceAdd,Nat.reduceSub,Nat.reduceMul,Nat.reduceBEq,Nat.reduceBNe,Nat.reducePow,Int.reduceToNat,Int.reduceLE,Int.reduceLT,Int.reduceMul,Int.reduceEq,Int.reducePow,Int.reduceAdd,Int.reduceSub,Int.reduceNeg,reduceCtorEq,cq,Tryz.results46,hlt',hnw,hfl,hg0,hkw]) | (with_reducible first | refine ag ?_ | refine am ?_ | refine aq ?_ | refine aG fun K hK => ?_ | refine az ?_ | refine ba ?_ | refine av ?_ | refine aH ?_) | (with_reducible refine hK _ ?_; clear hK K) | ((with_reducible refine ai ?_ ?_); (· decide)) | (with_reducible refine bm ?_ ?_; (· (try and_intros) <;> first | omega | assumption | (simp only [List.length_append,List.length_map,List.length_cons,List.length_nil] <;> omega))) | (with_reducible refine ae (h1) ?_) | (with_reducible refine ae (h2) ?_))
  refine bg [1,2,5,6] (by simp only [go_sem,↓reduceIte,Nat.reduceEqDiff,Nat.reduceLT,Nat.reduceLeDiff,Nat.reduceAdd,Nat.reduceSub,Nat.reduceMul,Nat.reduceBEq,Nat.reduceBNe,Nat.reducePow,Int.reduceToNat,Int.reduceLE,Int.reduceLT,Int.reduceMul,Int.reduceEq,Int.reducePow,Int.reduceAdd,Int.reduceSub,Int.reduceNeg,reduceCtorEq]; exact rfl) ?_
  exact ih (k + 1) (by omega) (by omega)
 have hlt' : ((k : Int) < (ks.length : Int)) = False := eq_false (by omega)
 obtain rfl : k = ks.length := by omega
 rw [List.take_length]
 have hm2 := iQ (vT c) ks
 generalize mxN (ks.map (dA c)) = K2 at *
 have hdw := dp (n := max M K2) (by omega)
 repeat' (first | (with_reducible refine hY _ ?_; clear hY Y) | ((with_reducible first | refine au rfl (ay fun K' hK' => aa ?_) | refine hK' _ (ab fun Y hY => aa ?_) | refine ab fun Y hY => aa ?_ | refine ac tk0 cq (ab fun Y hY => aa ?_) | refine aa ?_ | refine ax ?_); (try clear hK' K'); (try dsimp only [aop]); try simp only [go_sem,↓reduceIte,Nat.reduceEqDiff,Nat.reduceLT,Nat.reduceLeDiff,Nat.reduceAdd,Nat.reduceSub,Nat.reduceMul,Nat.reduceBEq,Nat.reduceBNe,Nat.reducePow,Int.reduceToNat,Int.reduceLE,Int.reduceLT,Int.reduceMul,Int.reduceEq,Int.reducePow,Int.reduceAdd,Int.reduceSub,Int.reduceNeg,reduceCtorEq,cq,Tryz.results46,hlt',hdw]) | (with_reducible first | refine ag ?_ | refine am ?_ | refine aq ?_ | refine aG fun K hK => ?_ | refine aA ?_ | refine bY ?_ | refine bF ?_ | refine aB ?_ | refine bE ?_) | (with_reducible refine hK _ ?_; clear hK K) | ((with_reducible refine ai ?_ ?_); (· decide)))
set_option maxRecDepth 100000 in
theorem ym (e : PA) : AFn Tryz.prog 46 [.agg (paA e),inA 0] [] (inA 1) [] := by
 obtain ⟨ak,⟨ck,ce,cks⟩,⟨ek,en,exn,eks⟩,⟨vk,vn,vxn,vks⟩,af,an,ks⟩ := e
 simp only [paA,ci,peA,List.cons_append,List.nil_append]
 refine aM [] Tryz.func46 rfl Tryz.ntmps46 (Nat.le_of_ble_eq_true rfl) (Nat.le_of_ble_eq_true rfl) fun w0 G0 B0 Pr hB0 => ?_
 simp only [aW,aL,List.cons_append,List.nil_append]
 repeat' (first | (with_reducible refine hY _ ?_; clear hY Y) | ((with_reducible first | refine au rfl (ay fun K' hK' => aa ?_) | refine hK' _ (ab fun Y hY => aa ?_) | refine ab fun Y hY => aa ?_ | refine ac tk0 cq (ab fun Y hY => aa ?_) | refine aa ?_ | refine ax ?_); (try clear hK' K'); (try dsimp only [aop]); try simp only [go_sem,↓reduceIte,Nat.reduceEqDiff,Nat.reduceLT,Nat.reduceLeDiff,Nat.reduceAdd,Nat.reduceSub,Nat.reduceMul,Nat.reduceBEq,Nat.reduceBNe,Nat.reducePow,Int.reduceToNat,Int.reduceLE,Int.reduceLT,Int.reduceMul,Int.reduceEq,Int.reducePow,Int.reduceAdd,Int.reduceSub,Int.reduceNeg,reduceCtorEq,cq,Tryz.results46]) | (with_reducible first | refine ag ?_ | refine am ?_ | refine aq ?_ | refine aG fun K hK => ?_ | refine az ?_ | refine bh ?_ | refine aB ?_) | (with_reducible refine hK _ ?_; clear hK K) | ((with_reducible refine ai ?_ ?_); (· decide)))
theorem mL : ∀ (b : Nat),b ≤ 100 → ∀ e,OkA e → AFn Tryz.prog 46 [.agg (paA e),inA (b : Int)] [] (inA (dA b e : Int)) []
 | 0,hb,e,ho => ym e
 | b + 1,hb,e,ho => yl b (by omega) (mL b (by omega)) e ho _ rfl
end Go.Proofs.YtkjnkkmokojnpaaGreatDoor
namespace Go.Proofs.YtkjnkkmokojnpaaGreatDoor
set_option linter.unusedSimpArgs false
set_option linter.unusedVariables false
open Go.RowKit
def aY : Nat → List Nat
 | 0 => [0,1]
 | 1 => [1,2]
 | 2 => []
 | 3 => [1,2]
 | 4 => [1,2,5]
 | 5 => [1,2,5]
 | 6 => [1,2,5,6]
 | 7 => [1,2,5,6]
 | 8 => [1,2,5,6]
 | 9 => [1,2,5]
 | 10 => [1,2,5,7]
 | 11 => [1,2,5,7]
 | 12 => [1,2,5,7]
 | 13 => [1,2,5]
 | 14 => [1,2,5,8]
 | 15 => [1,2,5,8]
 | 16 => [1,2,5,8]
 | 17 => [1,2,5]
 | 18 => [1,2,5,9]
 | 19 => [1,2,5,9]
 | 20 => [1,2,5,9]
 | 21 => [5]
 | _ => []
set_option maxRecDepth 100000 in
set_option maxHeartbeats 16000000 in
theorem yq (c : Nat) (hb : c ≤ 100) (h : ∀ e,OkS e → AFn Tryz.prog 47 [.agg (psA e),inA (c : Int)] [] (inA (dS c e : Int)) []) (e : PS') (ho : OkS e) (n : Int) (hn : n = ((c + 1 : Nat) : Int)) :
  AFn Tryz.prog 47 [.agg (psA e),inA n] [] (inA (dS (c + 1) e : Int)) [] := by
 obtain ⟨sk,x,y,z,e,v,co,a,rs,gs,fs,bd,els⟩ := e
 obtain ⟨_,_,_,_,he,hv,hc,ha,⟨hrs,hro⟩,⟨hgs,hgo⟩,_,⟨hbd,hbo⟩,hel,heo⟩ := ho
 unfold Lg at hrs hgs hbd hel
 have hn0 : (n = 0) = False := eq_false (by omega)
 have hnw : IntKind.i64.wrap (n - 1) = (c : Int) := by rw [cF (by omega) (by omega)]; omega
 have h1 := pM c hb co hc
 have h2 := iJ c hb e he
 have h3 := iJ c hb v hv
 have h4 := mL c hb a ha
 have h5 := jT (dE c e) (dE c v)
 have h6 := jT (dC c co) (max (dE c e) (dE c v))
 have h7 := jT (max (dC c co) (max (dE c e) (dE c v))) (dA c a)
 have b1 := rz c co
 have b2 := jb c e
 have b3 := jb c v
 have b4 := vT c a
 rw [dS]
 generalize dC c co = q1 at *
 generalize dE c e = q2 at *
 generalize dE c v = q3 at *
 generalize dA c a = q4 at *
 obtain ⟨ck,ce,cks⟩ := co
 obtain ⟨ek,en,ex,eks⟩ := e
 obtain ⟨vk,vn,vx,vks⟩ := v
 obtain ⟨ak,⟨ack,ace,acks⟩,⟨aek,aen,aex,aeks⟩,⟨avk,avn,avx,avks⟩,af,an,aks⟩ := a
 simp only [psA,paA,ci,peA,List.cons_append,List.nil_append] at h1 h2 h3 h4 ⊢
 obtain ⟨m0,e0⟩ : ∃ m,m = max q2 q3 := ⟨_,rfl⟩
 obtain ⟨m1,e1⟩ : ∃ m,m = max q1 m0 := ⟨_,rfl⟩
 obtain ⟨M,e2⟩ : ∃ m,m = max m1 q4 := ⟨_,rfl⟩
 rw [← e0] at h5 h6 h7 ⊢
 rw [← e1] at h6 h7 ⊢
 rw [← e2] at h7 ⊢
 have hM : M ≤ c + 1 := by omega
 clear e0 e1 e2
 refine aM [] Tryz.func47 rfl Tryz.ntmps47 (Nat.le_of_ble_eq_true rfl) (Nat.le_of_ble_eq_true rfl) fun w0 G0 B0 Pr hB0 => ?_
 simp only [aW,aL,List.cons_append,List.nil_append]
 repeat' (first | (with_reducible refine hY _ ?_; clear hY Y) | ((with_reducible first | refine au rfl (ay fun K' hK' => aa ?_) | refine hK' _ (ab fun Y hY => aa ?_) | refine ab fun Y hY => aa ?_ | refine ac tk0 aY (ab fun Y hY => aa ?_) | refine aa ?_ | refine cG rfl (cQ fun K' hK' => aa ?_) | refine hK' _ _ (ab fun Y hY => aa ?_)); (try clear hK' K'); (try dsimp only [aop]); try simp only [go_sem,seval,aY,Tryz.results47,hn0,hnw]) | (with_reducible first | refine ag ?_ | refine am ?_ | refine aq ?_ | refine aG fun K hK => ?_ | refine aA ?_ | refine av ?_ | refine aH ?_ | refine bR ?_ | refine bK ?_ | refine ef fun K hK => ?_) | (with_reducible refine hK _ ?_; clear hK K) | (with_reducible refine hK _ _ ?_ ?_; (· kernel_rfl); clear hK K) | ((with_reducible refine ai ?_ ?_); (· decide)) | (with_reducible refine bV tk0 aY ?_ ?_; (· kernel_rfl)) | (with_reducible refine ae (h1) ?_) | (with_reducible refine ae (h2) ?_) | (with_reducible refine ae (h3) ?_) | (with_reducible refine ae (h4) ?_) | (with_reducible refine ae (h5) ?_) | (with_reducible refine ae (h6) ?_) | (with_reducible refine ae (h7) ?_))
 clear h1 h2 h3 h4 h5 h6 h7 b1 b2 b3 b4
 refine bX (α := Nat) (fun k => [(1,inA n),(2,.loc 10002 0),(5,inA (max M (mxN ((rs.take k).map (dE c))) : Nat)),(6,inA (k : Int)),(10002,.bc [inA sk,bs x,bs y,bs z,inA ek,inA en,bs ex,.sl (cl eks) eks.length .none,inA vk,inA vn,bs vx,.sl (cl vks) vks.length .none,inA ck,.sl (cl ce) ce.length .none,.sl (dc cks) cks.length .none,inA ak,inA ack,.sl (cl ace) ace.length .none,.sl (dc acks) acks.length .none,inA aek,inA aen,bs aex,.sl (cl aeks) aeks.length .none,inA avk,inA avn,bs avx,.sl (cl avks) avks.length .none,bs af,inA an,.sl (ew aks) aks.length .none,.sl (cl rs) rs.length .none,.sl (cl gs) gs.length .none,.sl (fs.map bs) fs.length .none,.sl (du bd) bd.length .none,.sl (du els) els.length .none] 57)])
  (fun k => k ≤ rs.length) (fun k => rs.length - k) 0 [1,2,5,6] ?_ (Nat.zero_le _) ?_
 ·simp only [go_sem,seval] <;> simp [mxN]
 intro k hk ih
 have hkw := dp (n := k) (by omega)
 by_cases hlt : k < rs.length
 ·have hlt' : ((k : Int) < (rs.length : Int)) = True := eq_true (by omega)
  have hg0 := lj hlt
  have hfl := iH rs
  have hm := jD (dE c) hlt
  have h1 := iJ c hb rs[k] (iR hro rs[k] (List.getElem_mem hlt))
  generalize rs[k] = t at *
  have h2 := jT (max M (mxN ((rs.take k).map (dE c)))) (dE c t)
  rw [show max (max M (mxN ((rs.take k).map (dE c)))) (dE c t) = max M (mxN ((rs.take (k + 1)).map (dE c))) by rw [hm]; omega] at h2
  generalize dE c t = q at *
  obtain ⟨tk,tn,tx,ts⟩ := t
  simp only [peA,List.cons_append,List.nil_append] at hg0 h1
  repeat' (first | (with_reducible refine hY _ ?_; clear hY Y) | ((with_reducible first | refine au rfl (ay fun K' hK' => aa ?_) | refine hK' _ (ab fun Y hY => aa ?_) | refine ab fun Y hY => aa ?_ | refine ac tk0 aY (ab fun Y hY => aa ?_) | refine aa ?_); (try clear hK' K'); (try dsimp only [aop]); try simp only [go_sem,seval,aY,Tryz.results47,hlt',hnw,hfl,hg0,hkw]) | (with_reducible first | refine ag ?_ | refine am ?_ | refine aq ?_ | refine aG fun K hK => ?_ | refine az ?_ | refine ba ?_ | refine av ?_ | refine aH ?_) | (with_reducible refine hK _ ?_; clear hK K) | ((with_reducible refine ai ?_ ?_); (· decide)) | (with_reducible refine bm ?_ ?_; (· (try and_intros) <;> first | omega | assumption | (simp only [List.length_append,List.length_map,List.length_cons,List.length_nil] <;> omega))) | (with_reducible refine ae (h1) ?_) | (with_reducible refine ae (h2) ?_))
  refine bg [1,2,5,6] (by simp only [go_sem,seval]; exact rfl) ?_
  exact ih (k + 1) (by omega) (by omega)
 have hlt' : ((k : Int) < (rs.length : Int)) = False := eq_false (by omega)
 obtain rfl : k = rs.length := by omega
 rw [List.take_length]
 clear ih hk hkw hlt
 have hm2 := iQ (jb c) rs
 obtain ⟨M',hN0⟩ : ∃ m,m = max M (mxN (rs.map (dE c))) := ⟨_,rfl⟩
 rw [← hN0]
 have hNle0 : M' ≤ c + 1 := by omega
 clear hm2
 repeat' (first | (with_reducible refine hY _ ?_; clear hY Y) | ((with_reducible first | refine au rfl (ay fun K' hK' => aa ?_) | refine hK' _ (ab fun Y hY => aa ?_) | refine ab fun Y hY => aa ?_ | refine ac tk0 aY (ab fun Y hY => aa ?_)); (try clear hK' K'); (try dsimp only [aop]); try simp only [go_sem,seval,aY,Tryz.results47,hlt']) | (with_reducible first | refine ag ?_ | refine am ?_ | refine aq ?_ | refine aG fun K hK => ?_ | refine aA ?_ | refine bY ?_ | refine bF ?_ | refine av ?_ | refine bE ?_ | refine bR ?_) | (with_reducible refine hK _ ?_; clear hK K) | ((with_reducible refine ai ?_ ?_); (· decide)))
 clear hlt'
 refine bX (α := Nat) (fun k => [(1,inA n),(2,.loc 10002 0),(5,inA (max M' (mxN ((gs.take k).map (dE c))) : Nat)),(7,inA (k : Int)),(10002,.bc [inA sk,bs x,bs y,bs z,inA ek,inA en,bs ex,.sl (cl eks) eks.length .none,inA vk,inA vn,bs vx,.sl (cl vks) vks.length .none,inA ck,.sl (cl ce) ce.length .none,.sl (dc cks) cks.length .none,inA ak,inA ack,.sl (cl ace) ace.length .none,.sl (dc acks) acks.length .none,inA aek,inA aen,bs aex,.sl (cl aeks) aeks.length .none,inA avk,inA avn,bs avx,.sl (cl avks) avks.length .none,bs af,inA an,.sl (ew aks) aks.length .none,.sl (cl rs) rs.length .none,.sl (cl gs) gs.length .none,.sl (fs.map bs) fs.length .none,.sl (du bd) bd.length .none,.sl (du els) els.length .none] 57)])
  (fun k => k ≤ gs.length) (fun k => gs.length - k) 0 [1,2,5,7] ?_ (Nat.zero_le _) ?_
 ·simp only [go_sem,seval] <;> simp [mxN]
 intro k hk ih
 have hkw := dp (n := k) (by omega)
 by_cases hlt : k < gs.length
 ·have hlt' : ((k : Int) < (gs.length : Int)) = True := eq_true (by omega)
  have hg0 := lj hlt
  have hfl := iH gs
  have hm := jD (dE c) hlt
  have h1 := iJ c hb gs[k] (iR hgo gs[k] (List.getElem_mem hlt))
  generalize gs[k] = t at *
  have h2 := jT (max M' (mxN ((gs.take k).map (dE c)))) (dE c t)
  rw [show max (max M' (mxN ((gs.take k).map (dE c)))) (dE c t) = max M' (mxN ((gs.take (k + 1)).map (dE c))) by rw [hm]; omega] at h2
  generalize dE c t = q at *
  obtain ⟨tk,tn,tx,ts⟩ := t
  simp only [peA,List.cons_append,List.nil_append] at hg0 h1
  repeat' (first | (with_reducible refine hY _ ?_; clear hY Y) | ((with_reducible first | refine au rfl (ay fun K' hK' => aa ?_) | refine hK' _ (ab fun Y hY => aa ?_) | refine ab fun Y hY => aa ?_ | refine ac tk0 aY (ab fun Y hY => aa ?_) | refine aa ?_); (try clear hK' K'); (try dsimp only [aop]); try simp only [go_sem,seval,aY,Tryz.results47,hlt',hnw,hfl,hg0,hkw]) | (with_reducible first | refine ag ?_ | refine am ?_ | refine aq ?_ | refine aG fun K hK => ?_ | refine az ?_ | refine ba ?_ | refine av ?_ | refine aH ?_) | (with_reducible refine hK _ ?_; clear hK K) | ((with_reducible refine ai ?_ ?_); (· decide)) | (with_reducible refine bm ?_ ?_; (· (try and_intros) <;> first | omega | assumption | (simp only [List.length_append,List.length_map,List.length_cons,List.length_nil] <;> omega))) | (with_reducible refine ae (h1) ?_) | (with_reducible refine ae (h2) ?_))
  refine bg [1,2,5,7] (by simp only [go_sem,seval]; exact rfl) ?_
  exact ih (k + 1) (by omega) (by omega)
 have hlt' : ((k : Int) < (gs.length : Int)) = False := eq_false (by omega)
 obtain rfl : k = gs.length := by omega
 rw [List.take_length]
 clear ih hk hkw hlt
 have hm2 := iQ (jb c) gs
 obtain ⟨M'',hN1⟩ : ∃ m,m = max M' (mxN (gs.map (dE c))) := ⟨_,rfl⟩
 rw [← hN1]
 have hNle1 : M'' ≤ c + 1 := by omega
 clear hm2
 repeat' (first | (with_reducible refine hY _ ?_; clear hY Y) | ((with_reducible first | refine au rfl (ay fun K' hK' => aa ?_) | refine hK' _ (ab fun Y hY => aa ?_) | refine ab fun Y hY => aa ?_ | refine ac tk0 aY (ab fun Y hY => aa ?_)); (try clear hK' K'); (try dsimp only [aop]); try simp only [go_sem,seval,aY,Tryz.results47,hlt']) | (with_reducible first | refine ag ?_ | refine am ?_ | refine aq ?_ | refine aG fun K hK => ?_ | refine aA ?_ | refine bY ?_ | refine bF ?_ | refine av ?_ | refine bE ?_ | refine bR ?_) | (with_reducible refine hK _ ?_; clear hK K) | ((with_reducible refine ai ?_ ?_); (· decide)))
 clear hlt'
 refine bX (α := Nat) (fun k => [(1,inA n),(2,.loc 10002 0),(5,inA (max M'' (mxN ((bd.take k).map (dS c))) : Nat)),(8,inA (k : Int)),(10002,.bc [inA sk,bs x,bs y,bs z,inA ek,inA en,bs ex,.sl (cl eks) eks.length .none,inA vk,inA vn,bs vx,.sl (cl vks) vks.length .none,inA ck,.sl (cl ce) ce.length .none,.sl (dc cks) cks.length .none,inA ak,inA ack,.sl (cl ace) ace.length .none,.sl (dc acks) acks.length .none,inA aek,inA aen,bs aex,.sl (cl aeks) aeks.length .none,inA avk,inA avn,bs avx,.sl (cl avks) avks.length .none,bs af,inA an,.sl (ew aks) aks.length .none,.sl (cl rs) rs.length .none,.sl (cl gs) gs.length .none,.sl (fs.map bs) fs.length .none,.sl (du bd) bd.length .none,.sl (du els) els.length .none] 57)])
  (fun k => k ≤ bd.length) (fun k => bd.length - k) 0 [1,2,5,8] ?_ (Nat.zero_le _) ?_
 ·simp only [go_sem,seval] <;> simp [mxN]
 intro k hk ih
 have hkw := dp (n := k) (by omega)
 by_cases hlt : k < bd.length
 ·have hlt' : ((k : Int) < (bd.length : Int)) = True := eq_true (by omega)
  have hg0 := jp hlt
  have hfl := gx bd
  have hm := jD (dS c) hlt
  have h1 := h bd[k] (fy hbo bd[k] (List.getElem_mem hlt))
  generalize bd[k] = t at *
  have h2 := jT (max M'' (mxN ((bd.take k).map (dS c)))) (dS c t)
  rw [show max (max M'' (mxN ((bd.take k).map (dS c)))) (dS c t) = max M'' (mxN ((bd.take (k + 1)).map (dS c))) by rw [hm]; omega] at h2
  generalize dS c t = q at *
  obtain ⟨tk,tx,ty,tz,⟨tek,ten,tex,teks⟩,⟨tvk,tvn,tvx,tvks⟩,⟨tck,tce,tcks⟩,⟨tak,⟨tack,tace,tacks⟩,⟨taek,taen,taex,taeks⟩,⟨tavk,tavn,tavx,tavks⟩,taf,tan,taks⟩,trs,tgs,tfs,tbd,tels⟩ := t
  simp only [psA,paA,ci,peA,List.cons_append,List.nil_append] at hg0 h1
  repeat' (first | (with_reducible refine hY _ ?_; clear hY Y) | ((with_reducible first | refine au rfl (ay fun K' hK' => aa ?_) | refine hK' _ (ab fun Y hY => aa ?_) | refine ab fun Y hY => aa ?_ | refine ac tk0 aY (ab fun Y hY => aa ?_) | refine aa ?_); (try clear hK' K'); (try dsimp only [aop]); try simp only [go_sem,seval,aY,Tryz.results47,hlt',hnw,hfl,hg0,hkw]) | (with_reducible first | refine ag ?_ | refine am ?_ | refine aq ?_ | refine aG fun K hK => ?_ | refine az ?_ | refine ba ?_ | refine av ?_ | refine aH ?_) | (with_reducible refine hK _ ?_; clear hK K) | ((with_reducible refine ai ?_ ?_); (· decide)) | (with_reducible refine bm ?_ ?_; (· (try and_intros) <;> first | omega | assumption | (simp only [List.length_append,List.length_map,List.length_cons,List.length_nil] <;> omega))) | (with_reducible refine ae (h1) ?_) | (with_reducible refine ae (h2) ?_))
  refine bg [1,2,5,8] (by simp only [go_sem,seval]; exact rfl) ?_
  exact ih (k + 1) (by omega) (by omega)
 have hlt' : ((k : Int) < (bd.length : Int)) = False := eq_false (by omega)
 obtain rfl : k = bd.length := by omega
 rw [List.take_length]
 clear ih hk hkw hlt
 have hm2 := iQ (vU c) bd
 obtain ⟨M''',hN2⟩ : ∃ m,m = max M'' (mxN (bd.map (dS c))) := ⟨_,rfl⟩
 rw [← hN2]
 have hNle2 : M''' ≤ c + 1 := by omega
 clear hm2
 repeat' (first | (with_reducible refine hY _ ?_; clear hY Y) | ((with_reducible first | refine au rfl (ay fun K' hK' => aa ?_) | refine hK' _ (ab fun Y hY => aa ?_) | refine ab fun Y hY => aa ?_ | refine ac tk0 aY (ab fun Y hY => aa ?_)); (try clear hK' K'); (try dsimp only [aop]); try simp only [go_sem,seval,aY,Tryz.results47,hlt']) | (with_reducible first | refine ag ?_ | refine am ?_ | refine aq ?_ | refine aG fun K hK => ?_ | refine aA ?_ | refine bY ?_ | refine bF ?_ | refine av ?_ | refine bE ?_ | refine bR ?_) | (with_reducible refine hK _ ?_; clear hK K) | ((with_reducible refine ai ?_ ?_); (· decide)))
 clear hlt'
 refine bX (α := Nat) (fun k => [(1,inA n),(2,.loc 10002 0),(5,inA (max M''' (mxN ((els.take k).map (dS c))) : Nat)),(9,inA (k : Int)),(10002,.bc [inA sk,bs x,bs y,bs z,inA ek,inA en,bs ex,.sl (cl eks) eks.length .none,inA vk,inA vn,bs vx,.sl (cl vks) vks.length .none,inA ck,.sl (cl ce) ce.length .none,.sl (dc cks) cks.length .none,inA ak,inA ack,.sl (cl ace) ace.length .none,.sl (dc acks) acks.length .none,inA aek,inA aen,bs aex,.sl (cl aeks) aeks.length .none,inA avk,inA avn,bs avx,.sl (cl avks) avks.length .none,bs af,inA an,.sl (ew aks) aks.length .none,.sl (cl rs) rs.length .none,.sl (cl gs) gs.length .none,.sl (fs.map bs) fs.length .none,.sl (du bd) bd.length .none,.sl (du els) els.length .none] 57)])
  (fun k => k ≤ els.length) (fun k => els.length - k) 0 [1,2,5,9] ?_ (Nat.zero_le _) ?_
 ·simp only [go_sem,seval] <;> simp [mxN]
 intro k hk ih
 have hkw := dp (n := k) (by omega)
 by_cases hlt : k < els.length
 ·have hlt' : ((k : Int) < (els.length : Int)) = True := eq_true (by omega)
  have hg0 := jp hlt
  have hfl := gx els
  have hm := jD (dS c) hlt
  have h1 := h els[k] (fy heo els[k] (List.getElem_mem hlt))
  generalize els[k] = t at *
  have h2 := jT (max M''' (mxN ((els.take k).map (dS c)))) (dS c t)
  rw [show max (max M''' (mxN ((els.take k).map (dS c)))) (dS c t) = max M''' (mxN ((els.take (k + 1)).map (dS c))) by rw [hm]; omega] at h2
  generalize dS c t = q at *
  obtain ⟨tk,tx,ty,tz,⟨tek,ten,tex,teks⟩,⟨tvk,tvn,tvx,tvks⟩,⟨tck,tce,tcks⟩,⟨tak,⟨tack,tace,tacks⟩,⟨taek,taen,taex,taeks⟩,⟨tavk,tavn,tavx,tavks⟩,taf,tan,taks⟩,trs,tgs,tfs,tbd,tels⟩ := t
  simp only [psA,paA,ci,peA,List.cons_append,List.nil_append] at hg0 h1
  repeat' (first | (with_reducible refine hY _ ?_; clear hY Y) | ((with_reducible first | refine au rfl (ay fun K' hK' => aa ?_) | refine hK' _ (ab fun Y hY => aa ?_) | refine ab fun Y hY => aa ?_ | refine ac tk0 aY (ab fun Y hY => aa ?_) | refine aa ?_); (try clear hK' K'); (try dsimp only [aop]); try simp only [go_sem,seval,aY,Tryz.results47,hlt',hnw,hfl,hg0,hkw]) | (with_reducible first | refine ag ?_ | refine am ?_ | refine aq ?_ | refine aG fun K hK => ?_ | refine az ?_ | refine ba ?_ | refine av ?_ | refine aH ?_) | (with_reducible refine hK _ ?_; clear hK K) | ((with_reducible refine ai ?_ ?_); (· decide)) | (with_reducible refine bm ?_ ?_; (· (try and_intros) <;> first | omega | assumption | (simp only [List.length_append,List.length_map,List.length_cons,List.length_nil] <;> omega))) | (with_reducible refine ae (h1) ?_) | (with_reducible refine ae (h2) ?_))
  refine bg [1,2,5,9] (by simp only [go_sem,seval]; exact rfl) ?_
  exact ih (k + 1) (by omega) (by omega)
 have hlt' : ((k : Int) < (els.length : Int)) = False := eq_false (by omega)
 obtain rfl : k = els.length := by omega
 rw [List.take_length]
 clear ih hk hkw hlt
 have hm2 := iQ (vU c) els
 obtain ⟨M'''',hN3⟩ : ∃ m,m = max M''' (mxN (els.map (dS c))) := ⟨_,rfl⟩
 rw [← hN3]
 have hNle3 : M'''' ≤ c + 1 := by omega
 clear hm2
 have hdw := dp (n := M'''') (by omega)
 repeat' (first | (with_reducible refine hY _ ?_; clear hY Y) | ((with_reducible first | refine au rfl (ay fun K' hK' => aa ?_) | refine hK' _ (ab fun Y hY => aa ?_) | refine ab fun Y hY => aa ?_ | refine ac tk0 aY (ab fun Y hY => aa ?_) | refine aa ?_ | refine ax ?_); (try clear hK' K'); (try dsimp only [aop]); try simp only [go_sem,seval,aY,Tryz.results47,hlt',hdw]) | (with_reducible first | refine ag ?_ | refine am ?_ | refine aq ?_ | refine aG fun K hK => ?_ | refine aA ?_ | refine bY ?_ | refine bF ?_ | refine aB ?_ | refine bE ?_) | (with_reducible refine hK _ ?_; clear hK K) | ((with_reducible refine ai ?_ ?_); (· decide)))
set_option maxRecDepth 100000 in
theorem yr (e : PS') : AFn Tryz.prog 47 [.agg (psA e),inA 0] [] (inA 1) [] := by
 obtain ⟨sk,x,y,z,⟨ek,en,ex,eks⟩,⟨vk,vn,vx,vks⟩,⟨ck,ce,cks⟩,⟨ak,⟨ack,ace,acks⟩,⟨aek,aen,aex,aeks⟩,⟨avk,avn,avx,avks⟩,af,an,aks⟩,rs,gs,fs,bd,els⟩ := e
 simp only [psA,paA,ci,peA,List.cons_append,List.nil_append]
 refine aM [] Tryz.func47 rfl Tryz.ntmps47 (Nat.le_of_ble_eq_true rfl) (Nat.le_of_ble_eq_true rfl) fun w0 G0 B0 Pr hB0 => ?_
 simp only [aW,aL,List.cons_append,List.nil_append]
 repeat' (first | (with_reducible refine hY _ ?_; clear hY Y) | ((with_reducible first | refine au rfl (ay fun K' hK' => aa ?_) | refine hK' _ (ab fun Y hY => aa ?_) | refine ab fun Y hY => aa ?_ | refine ac tk0 aY (ab fun Y hY => aa ?_) | refine aa ?_ | refine ax ?_); (try clear hK' K'); (try dsimp only [aop]); try simp only [go_sem,seval,aY,Tryz.results47]) | (with_reducible first | refine ag ?_ | refine am ?_ | refine aq ?_ | refine aG fun K hK => ?_ | refine az ?_ | refine bh ?_ | refine aB ?_) | (with_reducible refine hK _ ?_; clear hK K) | ((with_reducible refine ai ?_ ?_); (· decide)))
theorem tW : ∀ (b : Nat),b ≤ 100 → ∀ e,OkS e → AFn Tryz.prog 47 [.agg (psA e),inA (b : Int)] [] (inA (dS b e : Int)) []
 | 0,hb,e,ho => yr e
 | b + 1,hb,e,ho => yq b (by omega) (tW b (by omega)) e ho _ rfl
end Go.Proofs.YtkjnkkmokojnpaaGreatDoor
