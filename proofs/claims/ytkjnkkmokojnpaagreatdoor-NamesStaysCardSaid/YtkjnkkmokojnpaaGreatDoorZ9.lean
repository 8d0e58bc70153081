/- How many parts programs have, in K. -/
import Derived.Test.YtkjnkkmokojnpaaGreatDoorZ8
import Derived.Test.YtkjnkkmokojnpaaGreatDoorZ6
namespace Go.Proofs.YtkjnkkmokojnpaaGreatDoor
set_option linter.unusedSimpArgs false
set_option linter.unusedVariables false
open Go.RowKit
theorem iH (l : List PE) : (cl l).length = l.length * 4 := by rw [lM]; exact od fS l
theorem jZ (l : List PC) : (dc l).length = l.length * 3 := by rw [li]; exact od fP l
theorem ku (l : List PA) : (ew l).length = l.length * 15 := by rw [lK]; exact od eZ l
theorem gx (l : List PS') : (du l).length = l.length * 35 := by rw [lN]; exact od kv l
theorem gw (l : List PP) : (l.flatMap ppA).length = l.length * 34 := od nk l
theorem nj {l : List PE} {i : Nat} (h : i < l.length) (j : Nat) (hj : j < 4) : (cl l).getD (i * 4 + j) .u = (peA l[i]).getD j .u := by rw [lM]; exact pV fS h j hj
theorem nh {l : List PC} {i : Nat} (h : i < l.length) (j : Nat) (hj : j < 3) : (dc l).getD (i * 3 + j) .u = (ci l[i]).getD j .u := by rw [li]; exact pV fP h j hj
theorem sZ {l : List PA} {i : Nat} (h : i < l.length) (j : Nat) (hj : j < 15) : (ew l).getD (i * 15 + j) .u = (paA l[i]).getD j .u := by rw [lK]; exact pV eZ h j hj
theorem lL {l : List PA} {i : Nat} (h : i < l.length) (j n : Nat) (hj : j + n ≤ 15) : ((ew l).drop (i * 15 + j)).take n = ((paA l[i]).drop j).take n := by rw [lK]; exact C4 eZ h j n hj
theorem lj {l : List PE} {i : Nat} (h : i < l.length) : ((cl l).drop (i * 4)).take 4 = peA l[i] := by rw [lM]; exact oB fS h
theorem pf {l : List PC} {i : Nat} (h : i < l.length) : ((dc l).drop (i * 3)).take 3 = ci l[i] := by rw [li]; exact oB fP h
theorem qr {l : List PA} {i : Nat} (h : i < l.length) : ((ew l).drop (i * 15)).take 15 = paA l[i] := by rw [lK]; exact oB eZ h
theorem jp {l : List PS'} {i : Nat} (h : i < l.length) : ((du l).drop (i * 35)).take 35 = psA l[i] := by rw [lN]; exact oB kv h
theorem jN {l : List PP} {i : Nat} (h : i < l.length) : ((l.flatMap ppA).drop (i * 34)).take 34 = ppA l[i] := oB nk h
abbrev fQ (left : Int) : Prop := -1 ≤ left ∧ left ≤ 1000000
def bO : Nat → List Nat
 | 0 => [0,1,2]
 | 1 => [0,1,2]
 | 2 => []
 | 3 => [0,1,2]
 | 4 => [0,1,2,7]
 | 5 => [0,1,2,7]
 | 6 => [0,1,2,7]
 | 7 => []
 | 8 => [0,1,2,7]
 | 9 => [1]
 | _ => []
set_option maxRecDepth 100000 in
set_option maxHeartbeats 4000000 in
theorem Bx (d : Nat) (hd : d ≤ 1000) (h : ∀ (l : List PE) (left : Int) (b : Bool),Lg l → ir l → fQ left → AFn Tryz.prog 151 [.sl (cl l) l.length (ofB b),inA left,inA (d : Int)] [] (inA (szE d l left)) []) (l : List PE) (left0 : Int) (b : Bool) (hl : Lg l) (ho : ir l) (hl0 : fQ left0) (n : Int) (hn : n = (d : Int) + 1) :
  AFn Tryz.prog 151 [.sl (cl l) l.length (ofB b),inA left0,inA n] [] (inA (ls (szE d) l left0)) [] := by
 unfold Lg at hl
 have hn0 : (n = 0) = False := eq_false (by omega)
 have hn1 : (n == 0) = false := by simp; omega
 have hnw : IntKind.i64.wrap (n - 1) = (d : Int) := by rw [cF (by omega) (by omega)]; omega
 obtain ⟨R,hR⟩ : ∃ R,R = ls (szE d) l left0 := ⟨_,rfl⟩
 rw [← hR]
 refine aM [] Tryz.func151 rfl Tryz.ntmps151 (Nat.le_of_ble_eq_true rfl) (Nat.le_of_ble_eq_true rfl) fun w0 G0 B0 Pr hB0 => ?_
 simp only [aW,aL,List.cons_append,List.nil_append]
 repeat' (first | (with_reducible refine hY _ ?_; clear hY Y) | ((with_reducible first | refine au rfl (ay fun K' hK' => aa ?_) | refine hK' _ (ab fun Y hY => aa ?_) | refine ab fun Y hY => aa ?_ | refine ac tk0 bO (ab fun Y hY => aa ?_)); (try clear hK' K'); (try dsimp only [aop]); try simp only [go_sem,↓reduceIte,Nat.reduceEqDiff,Nat.reduceLT,Nat.reduceLeDiff,Nat.reduceAdd,Nat.reduceSub,Nat.reduceMul,Nat.reduceBEq,Nat.reduceBNe,Nat.reducePow,Int.reduceToNat,Int.reduceLE,Int.reduceLT,Int.reduceMul,Int.reduceEq,Int.reducePow,Int.reduceAdd,Int.reduceSub,Int.reduceNeg,reduceCtorEq,bO,Tryz.results151,hn0,hn1]) | (with_reducible first | refine ag ?_ | refine am ?_ | refine aq ?_ | refine aG fun K hK => ?_ | refine aA ?_ | refine av ?_ | refine aH ?_ | refine bR ?_) | (with_reducible refine hK _ ?_; clear hK K) | ((with_reducible refine ai ?_ ?_); (· decide)))
 refine bX (α := Nat × Int) (fun p => [(0,.sl (cl l) l.length (ofB b)),(1,inA p.2),(2,inA n),(7,inA (p.1 : Int))])
  (fun p => p.1 ≤ l.length ∧ fQ p.2 ∧ ls (szE d) (l.drop p.1) p.2 = R) (fun p => l.length - p.1) (0,left0) [0,1,2,7] ?_ ⟨Nat.zero_le _,hl0,hR.symm⟩ ?_
 ·simp only [go_sem,↓reduceIte,Nat.reduceEqDiff,Nat.reduceLT,Nat.reduceLeDiff,Nat.reduceAdd,Nat.reduceSub,Nat.reduceMul,Nat.reduceBEq,Nat.reduceBNe,Nat.reducePow,Int.reduceToNat,Int.reduceLE,Int.reduceLT,Int.reduceMul,Int.reduceEq,Int.reducePow,Int.reduceAdd,Int.reduceSub,Int.reduceNeg,reduceCtorEq] <;> rfl
 rintro ⟨k,left⟩ ⟨hk,hlf,hs⟩ ih
 simp only at hk hlf hs ih ⊢
 clear hR hl0
 by_cases hlt : k < l.length
 case neg =>
  have hlt' : ((k : Int) < (l.length : Int)) = False := eq_false (by omega)
  rw [List.drop_of_length_le (by omega)] at hs
  unfold ls at hs
  subst hs
  repeat' (first | (with_reducible refine hY _ ?_; clear hY Y) | ((with_reducible first | refine au rfl (ay fun K' hK' => aa ?_) | refine hK' _ (ab fun Y hY => aa ?_) | refine bf rfl (ab fun Y hY => aa ?_) | refine ab fun Y hY => aa ?_ | refine ac tk0 bO (ab fun Y hY => aa ?_) | refine aa ?_ | refine ax ?_); (try clear hK' K'); (try dsimp only [aop]); try simp only [go_sem,↓reduceIte,Nat.reduceEqDiff,Nat.reduceLT,Nat.reduceLeDiff,Nat.reduceAdd,Nat.reduceSub,Nat.reduceMul,Nat.reduceBEq,Nat.reduceBNe,Nat.reducePow,Int.reduceToNat,Int.reduceLE,Int.reduceLT,Int.reduceMul,Int.reduceEq,Int.reducePow,Int.reduceAdd,Int.reduceSub,Int.reduceNeg,reduceCtorEq,bO,Tryz.results151,hlt']) | (with_reducible first | refine ag ?_ | refine aU rfl ?_ | refine cN ?_ ?_ | refine am ?_ | refine aq ?_ | refine aG fun K hK => ?_ | refine aA ?_ | refine bY ?_ | refine bF ?_ | refine aB ?_ | refine bE ?_) | (with_reducible refine hK _ ?_; clear hK K) | ((with_reducible first | refine aJ ?_ ?_ | refine ai ?_ ?_); (· decide)))
 have hlt' : ((k : Int) < (l.length : Int)) = True := eq_true (by omega)
 have hkw : IntKind.i64.wrap ((k : Int) + 1) = ((k + 1 : Nat) : Int) := by rw [cF (by omega) (by omega)]; rfl
 have hg2 := nj hlt 2 (by decide)
 have hg3 := nj hlt 3 (by decide)
 have hfl := iH l
 have hok := iR ho l[k] (List.getElem_mem hlt)
 rw [List.drop_eq_getElem_cons hlt] at hs
 generalize l[k] = e at *
 obtain ⟨ek,en,x,ks⟩ := e
 simp only [peA,List.getD_cons_succ,List.getD_cons_zero] at hg2 hg3
 obtain ⟨_,_,hx,hks,hko⟩ := hok
 unfold ls at hs
 by_cases hz : left < 0
 ·rw [if_pos hz] at hs
  subst hs
  have hz' : ((0 : Int) ≤ left) = False := eq_false (by omega)
  repeat' (first | (with_reducible refine hY _ ?_; clear hY Y) | ((with_reducible first | refine au rfl (ay fun K' hK' => aa ?_) | refine hK' _ (ab fun Y hY => aa ?_) | refine bf rfl (ab fun Y hY => aa ?_) | refine ab fun Y hY => aa ?_ | refine ay fun K' hK' => aa ?_ | refine ac tk0 bO (ab fun Y hY => aa ?_) | refine aa ?_ | refine ax ?_); (try clear hK' K'); (try dsimp only [aop]); try simp only [go_sem,↓reduceIte,Nat.reduceEqDiff,Nat.reduceLT,Nat.reduceLeDiff,Nat.reduceAdd,Nat.reduceSub,Nat.reduceMul,Nat.reduceBEq,Nat.reduceBNe,Nat.reducePow,Int.reduceToNat,Int.reduceLE,Int.reduceLT,Int.reduceMul,Int.reduceEq,Int.reducePow,Int.reduceAdd,Int.reduceSub,Int.reduceNeg,reduceCtorEq,bO,Tryz.results151,hlt',hz']) | (with_reducible first | refine ag ?_ | refine aK ?_ | refine am ?_ | refine aq ?_ | refine aG fun K hK => ?_ | refine aA ?_ | refine bY ?_ | refine bF ?_ | refine aB ?_ | refine bE ?_) | (with_reducible refine hK _ ?_; clear hK K) | ((with_reducible first | refine aJ ?_ ?_ | refine ai ?_ ?_); (· decide)))
 rw [if_neg hz] at hs
 have hz' : ((0 : Int) ≤ left) = True := eq_true (by omega)
 by_cases hx2 : 200 < x.length
 ·rw [if_pos hx2] at hs
  subst hs
  have hx' : ((200 : Int) < (x.length : Int)) = True := eq_true (by omega)
  repeat' (first | (with_reducible refine hY _ ?_; clear hY Y) | ((with_reducible first | refine au rfl (ay fun K' hK' => aa ?_) | refine hK' _ (ab fun Y hY => aa ?_) | refine bf rfl (ab fun Y hY => aa ?_) | refine ab fun Y hY => aa ?_ | refine ay fun K' hK' => aa ?_ | refine ac tk0 bO (ab fun Y hY => aa ?_) | refine aa ?_ | refine ax ?_); (try clear hK' K'); (try dsimp only [aop]); try simp only [go_sem,↓reduceIte,Nat.reduceEqDiff,Nat.reduceLT,Nat.reduceLeDiff,Nat.reduceAdd,Nat.reduceSub,Nat.reduceMul,Nat.reduceBEq,Nat.reduceBNe,Nat.reducePow,Int.reduceToNat,Int.reduceLE,Int.reduceLT,Int.reduceMul,Int.reduceEq,Int.reducePow,Int.reduceAdd,Int.reduceSub,Int.reduceNeg,reduceCtorEq,bO,Tryz.results151,hlt',hz',hg2,hfl,hx']) | (with_reducible first | refine ag ?_ | refine aK ?_ | refine am ?_ | refine aq ?_ | refine aG fun K hK => ?_ | refine az ?_ | refine bh ?_ | refine bp ?_ | refine av ?_ | refine aH ?_ | refine aB ?_) | (with_reducible refine hK _ ?_; clear hK K) | ((with_reducible first | refine aJ ?_ ?_ | refine ai ?_ ?_); (· decide)) | (with_reducible refine bm ?_ ?_; (· (try and_intros) <;> first | omega | assumption | (simp only [List.length_append,List.length_map,List.length_cons,List.length_nil] <;> omega))))
 rw [if_neg hx2] at hs
 have hx' : ((200 : Int) < (x.length : Int)) = False := eq_false (by omega)
 have hlw : IntKind.i64.wrap (left - 1) = left - 1 := cF (by omega) (by omega)
 have h1 := h ks (left - 1) false hks hko ⟨by omega,by omega⟩
 have h2 := iK d ks (left - 1) (by omega)
 generalize szE d ks (left - 1) = q at *
 simp only [ofB] at h1
 repeat' (first | (with_reducible refine hY _ ?_; clear hY Y) | ((with_reducible first | refine au rfl (ay fun K' hK' => aa ?_) | refine hK' _ (ab fun Y hY => aa ?_) | refine bf rfl (ab fun Y hY => aa ?_) | refine ab fun Y hY => aa ?_ | refine ay fun K' hK' => aa ?_ | refine ac tk0 bO (ab fun Y hY => aa ?_) | refine aa ?_); (try clear hK' K'); (try dsimp only [aop]); try simp only [go_sem,↓reduceIte,Nat.reduceEqDiff,Nat.reduceLT,Nat.reduceLeDiff,Nat.reduceAdd,Nat.reduceSub,Nat.reduceMul,Nat.reduceBEq,Nat.reduceBNe,Nat.reducePow,Int.reduceToNat,Int.reduceLE,Int.reduceLT,Int.reduceMul,Int.reduceEq,Int.reducePow,Int.reduceAdd,Int.reduceSub,Int.reduceNeg,reduceCtorEq,bO,Tryz.results151,hlt',hz',hg2,hg3,hfl,hx',hlw,hnw,hkw]) | (with_reducible first | refine ag ?_ | refine aK ?_ | refine am ?_ | refine aq ?_ | refine aG fun K hK => ?_ | refine az ?_ | refine aA ?_ | refine ba ?_ | refine av ?_ | refine aH ?_) | (with_reducible refine hK _ ?_; clear hK K) | ((with_reducible first | refine aJ ?_ ?_ | refine ai ?_ ?_); (· decide)) | (with_reducible refine bm ?_ ?_; (· (try and_intros) <;> first | omega | assumption | (simp only [List.length_append,List.length_map,List.length_cons,List.length_nil] <;> omega))) | (with_reducible refine ae (h1) ?_))
 refine bg [0,1,2,7] (by simp only [go_sem,↓reduceIte,Nat.reduceEqDiff,Nat.reduceLT,Nat.reduceLeDiff,Nat.reduceAdd,Nat.reduceSub,Nat.reduceMul,Nat.reduceBEq,Nat.reduceBNe,Nat.reducePow,Int.reduceToNat,Int.reduceLE,Int.reduceLT,Int.reduceMul,Int.reduceEq,Int.reducePow,Int.reduceAdd,Int.reduceSub,Int.reduceNeg,reduceCtorEq]; exact rfl) ?_
 exact ih (k + 1,q) ⟨by omega,⟨by omega,by omega⟩,hs⟩ (by show l.length - (k + 1) < l.length - k; omega)
set_option maxRecDepth 100000 in
theorem lS : ∀ (d : Nat),d ≤ 1000 → ∀ (l : List PE) (left : Int) (b : Bool),Lg l → ir l → fQ left → AFn Tryz.prog 151 [.sl (cl l) l.length (ofB b),inA left,inA (d : Int)] [] (inA (szE d l left)) []
 | 0,_,l,left,b,_,_,_ => by
  refine aM [] Tryz.func151 rfl Tryz.ntmps151 (Nat.le_of_ble_eq_true rfl) (Nat.le_of_ble_eq_true rfl) fun w0 G0 B0 Pr hB0 => ?_
  simp only [aW,aL,List.cons_append,List.nil_append]
  repeat' (first | (with_reducible refine hY _ ?_; clear hY Y) | ((with_reducible first | refine au rfl (ay fun K' hK' => aa ?_) | refine hK' _ (ab fun Y hY => aa ?_) | refine ab fun Y hY => aa ?_ | refine ac tk0 bO (ab fun Y hY => aa ?_) | refine aa ?_ | refine ax ?_); (try clear hK' K'); (try dsimp only [aop]); try simp only [go_sem,↓reduceIte,Nat.reduceEqDiff,Nat.reduceLT,Nat.reduceLeDiff,Nat.reduceAdd,Nat.reduceSub,Nat.reduceMul,Nat.reduceBEq,Nat.reduceBNe,Nat.reducePow,Int.reduceToNat,Int.reduceLE,Int.reduceLT,Int.reduceMul,Int.reduceEq,Int.reducePow,Int.reduceAdd,Int.reduceSub,Int.reduceNeg,reduceCtorEq,bO,Tryz.results151]) | (with_reducible first | refine ag ?_ | refine am ?_ | refine aq ?_ | refine aG fun K hK => ?_ | refine bh ?_ | refine aB ?_) | (with_reducible refine hK _ ?_; clear hK K) | ((with_reducible refine ai ?_ ?_); (· decide)) | ((with_reducible refine fi (fun hc => ?_) (fun hc => ?_)) <;> (try simp only [decide_eq_true_eq,decide_eq_false_iff_not,Bool.not_true,Bool.not_false,Bool.not_eq_true',Bool.not_eq_false'] at hc) <;> (try (exfalso; omega))))
  rfl
 | d + 1,hd,l,left,b,hl,ho,hf => Bx d (by omega) (lS d (by omega)) l left b hl ho hf _ rfl
def bN : Nat → List Nat
 | 0 => [0,1,2]
 | 1 => [0,1,2]
 | 2 => []
 | 3 => [0,1,2]
 | 4 => [0,1,2,7]
 | 5 => [0,1,2,7]
 | 6 => [0,1,2,7]
 | 7 => [0,1,2,7]
 | 8 => [0,1,2,7]
 | 9 => [1]
 | _ => []
set_option maxRecDepth 100000 in
set_option maxHeartbeats 4000000 in
theorem Bw (d : Nat) (hd : d ≤ 1000) (h : ∀ (l : List PC) (left : Int) (b : Bool),Lg l → l9 l → fQ left → AFn Tryz.prog 150 [.sl (dc l) l.length (ofB b),inA left,inA (d : Int)] [] (inA (szC d l left)) []) (l : List PC) (left0 : Int) (b : Bool) (hl : Lg l) (ho : l9 l) (hl0 : fQ left0) (n : Int) (hn : n = (d : Int) + 1) :
  AFn Tryz.prog 150 [.sl (dc l) l.length (ofB b),inA left0,inA n] [] (inA (lq d (szC d) l left0)) [] := by
 unfold Lg at hl
 have hn0 : (n = 0) = False := eq_false (by omega)
 have hn1 : (n == 0) = false := by simp; omega
 have hnw : IntKind.i64.wrap (n - 1) = (d : Int) := by rw [cF (by omega) (by omega)]; omega
 obtain ⟨R,hR⟩ : ∃ R,R = lq d (szC d) l left0 := ⟨_,rfl⟩
 rw [← hR]
 refine aM [] Tryz.func150 rfl Tryz.ntmps150 (Nat.le_of_ble_eq_true rfl) (Nat.le_of_ble_eq_true rfl) fun w0 G0 B0 Pr hB0 => ?_
 simp only [aW,aL,List.cons_append,List.nil_append]
 repeat' (first | (with_reducible refine hY _ ?_; clear hY Y) | ((with_reducible first | refine au rfl (ay fun K' hK' => aa ?_) | refine hK' _ (ab fun Y hY => aa ?_) | refine ab fun Y hY => aa ?_ | refine ac tk0 bN (ab fun Y hY => aa ?_)); (try clear hK' K'); (try dsimp only [aop]); try simp only [go_sem,↓reduceIte,Nat.reduceEqDiff,Nat.reduceLT,Nat.reduceLeDiff,Nat.reduceAdd,Nat.reduceSub,Nat.reduceMul,Nat.reduceBEq,Nat.reduceBNe,Nat.reducePow,Int.reduceToNat,Int.reduceLE,Int.reduceLT,Int.reduceMul,Int.reduceEq,Int.reducePow,Int.reduceAdd,Int.reduceSub,Int.reduceNeg,reduceCtorEq,bN,Tryz.results150,hn0,hn1]) | (with_reducible first | refine ag ?_ | refine am ?_ | refine aq ?_ | refine aG fun K hK => ?_ | refine aA ?_ | refine av ?_ | refine aH ?_ | refine bR ?_) | (with_reducible refine hK _ ?_; clear hK K) | ((with_reducible refine ai ?_ ?_); (· decide)))
 refine bX (α := Nat × Int) (fun p => [(0,.sl (dc l) l.length (ofB b)),(1,inA p.2),(2,inA n),(7,inA (p.1 : Int))])
  (fun p => p.1 ≤ l.length ∧ fQ p.2 ∧ lq d (szC d) (l.drop p.1) p.2 = R) (fun p => l.length - p.1) (0,left0) [0,1,2,7] ?_ ⟨Nat.zero_le _,hl0,hR.symm⟩ ?_
 ·simp only [go_sem,↓reduceIte,Nat.reduceEqDiff,Nat.reduceLT,Nat.reduceLeDiff,Nat.reduceAdd,Nat.reduceSub,Nat.reduceMul,Nat.reduceBEq,Nat.reduceBNe,Nat.reducePow,Int.reduceToNat,Int.reduceLE,Int.reduceLT,Int.reduceMul,Int.reduceEq,Int.reducePow,Int.reduceAdd,Int.reduceSub,Int.reduceNeg,reduceCtorEq] <;> rfl
 rintro ⟨k,left⟩ ⟨hk,hlf,hs⟩ ih
 simp only at hk hlf hs ih ⊢
 clear hR hl0
 by_cases hlt : k < l.length
 case neg =>
  have hlt' : ((k : Int) < (l.length : Int)) = False := eq_false (by omega)
  rw [List.drop_of_length_le (by omega)] at hs
  unfold lq at hs
  subst hs
  repeat' (first | (with_reducible refine hY _ ?_; clear hY Y) | ((with_reducible first | refine au rfl (ay fun K' hK' => aa ?_) | refine hK' _ (ab fun Y hY => aa ?_) | refine bf rfl (ab fun Y hY => aa ?_) | refine ab fun Y hY => aa ?_ | refine ac tk0 bN (ab fun Y hY => aa ?_) | refine aa ?_ | refine ax ?_); (try clear hK' K'); (try dsimp only [aop]); try simp only [go_sem,↓reduceIte,Nat.reduceEqDiff,Nat.reduceLT,Nat.reduceLeDiff,Nat.reduceAdd,Nat.reduceSub,Nat.reduceMul,Nat.reduceBEq,Nat.reduceBNe,Nat.reducePow,Int.reduceToNat,Int.reduceLE,Int.reduceLT,Int.reduceMul,Int.reduceEq,Int.reducePow,Int.reduceAdd,Int.reduceSub,Int.reduceNeg,reduceCtorEq,bN,Tryz.results150,hlt']) | (with_reducible first | refine ag ?_ | refine aU rfl ?_ | refine cN ?_ ?_ | refine am ?_ | refine aq ?_ | refine aG fun K hK => ?_ | refine aA ?_ | refine bY ?_ | refine bF ?_ | refine aB ?_ | refine bE ?_) | (with_reducible refine hK _ ?_; clear hK K) | ((with_reducible first | refine aJ ?_ ?_ | refine ai ?_ ?_); (· decide)))
 have hlt' : ((k : Int) < (l.length : Int)) = True := eq_true (by omega)
 have hkw : IntKind.i64.wrap ((k : Int) + 1) = ((k + 1 : Nat) : Int) := by rw [cF (by omega) (by omega)]; rfl
 have hg1 := nh hlt 1 (by decide)
 have hg2 := nh hlt 2 (by decide)
 have hfl := jZ l
 have hok := lh ho l[k] (List.getElem_mem hlt)
 rw [List.drop_eq_getElem_cons hlt] at hs
 generalize l[k] = e at *
 obtain ⟨ek,es,ks⟩ := e
 simp only [ci,List.getD_cons_succ,List.getD_cons_zero] at hg1 hg2
 obtain ⟨_,⟨hes,heo⟩,hks,hko⟩ := hok
 unfold lq at hs
 by_cases hz : left < 0
 ·rw [if_pos hz] at hs
  subst hs
  have hz' : ((0 : Int) ≤ left) = False := eq_false (by omega)
  repeat' (first | (with_reducible refine hY _ ?_; clear hY Y) | ((with_reducible first | refine au rfl (ay fun K' hK' => aa ?_) | refine hK' _ (ab fun Y hY => aa ?_) | refine bf rfl (ab fun Y hY => aa ?_) | refine ab fun Y hY => aa ?_ | refine ay fun K' hK' => aa ?_ | refine ac tk0 bN (ab fun Y hY => aa ?_) | refine aa ?_ | refine ax ?_); (try clear hK' K'); (try dsimp only [aop]); try simp only [go_sem,↓reduceIte,Nat.reduceEqDiff,Nat.reduceLT,Nat.reduceLeDiff,Nat.reduceAdd,Nat.reduceSub,Nat.reduceMul,Nat.reduceBEq,Nat.reduceBNe,Nat.reducePow,Int.reduceToNat,Int.reduceLE,Int.reduceLT,Int.reduceMul,Int.reduceEq,Int.reducePow,Int.reduceAdd,Int.reduceSub,Int.reduceNeg,reduceCtorEq,bN,Tryz.results150,hlt',hz']) | (with_reducible first | refine ag ?_ | refine aK ?_ | refine am ?_ | refine aq ?_ | refine aG fun K hK => ?_ | refine aA ?_ | refine bY ?_ | refine bF ?_ | refine aB ?_ | refine bE ?_) | (with_reducible refine hK _ ?_; clear hK K) | ((with_reducible first | refine aJ ?_ ?_ | refine ai ?_ ?_); (· decide)))
 rw [if_neg hz] at hs
 have hz' : ((0 : Int) ≤ left) = True := eq_true (by omega)
 have hlw : IntKind.i64.wrap (left - 1) = left - 1 := cF (by omega) (by omega)
 have h1 := lS d hd es (left - 1) false hes heo ⟨by omega,by omega⟩
 have h2 := iK d es (left - 1) (by omega)
 generalize szE d es (left - 1) = q at *
 have h3 := h ks q false hks hko ⟨by omega,by omega⟩
 have h4 := lY d ks q (by omega)
 generalize szC d ks q = r at *
 simp only [ofB] at h1 h3
 by_cases hq : 0 ≤ q
 ·rw [if_pos hq] at hs
  repeat' (first | (with_reducible refine hY _ ?_; clear hY Y) | ((with_reducible first | refine au rfl (ay fun K' hK' => aa ?_) | refine hK' _ (ab fun Y hY => aa ?_) | refine bf rfl (ab fun Y hY => aa ?_) | refine ab fun Y hY => aa ?_ | refine ay fun K' hK' => aa ?_ | refine ac tk0 bN (ab fun Y hY => aa ?_) | refine aa ?_); (try clear hK' K'); (try dsimp only [aop]); try simp only [go_sem,↓reduceIte,Nat.reduceEqDiff,Nat.reduceLT,Nat.reduceLeDiff,Nat.reduceAdd,Nat.reduceSub,Nat.reduceMul,Nat.reduceBEq,Nat.reduceBNe,Nat.reducePow,Int.reduceToNat,Int.reduceLE,Int.reduceLT,Int.reduceMul,Int.reduceEq,Int.reducePow,Int.reduceAdd,Int.reduceSub,Int.reduceNeg,reduceCtorEq,bN,Tryz.results150,hlt',hz',hg1,hg2,hfl,hlw,hnw,hkw,hq]) | (with_reducible first | refine ag ?_ | refine aK ?_ | refine am ?_ | refine aq ?_ | refine aG fun K hK => ?_ | refine az ?_ | refine ba ?_ | refine av ?_ | refine aH ?_) | (with_reducible refine hK _ ?_; clear hK K) | ((with_reducible first | refine aJ ?_ ?_ | refine ai ?_ ?_); (· decide)) | (with_reducible refine bm ?_ ?_; (· (try and_intros) <;> first | omega | assumption | (simp only [List.length_append,List.length_map,List.length_cons,List.length_nil] <;> omega))) | (with_reducible refine ae (h1) ?_) | (with_reducible refine ae (h3) ?_))
  refine bg [0,1,2,7] (by simp only [go_sem,↓reduceIte,Nat.reduceEqDiff,Nat.reduceLT,Nat.reduceLeDiff,Nat.reduceAdd,Nat.reduceSub,Nat.reduceMul,Nat.reduceBEq,Nat.reduceBNe,Nat.reducePow,Int.reduceToNat,Int.reduceLE,Int.reduceLT,Int.reduceMul,Int.reduceEq,Int.reducePow,Int.reduceAdd,Int.reduceSub,Int.reduceNeg,reduceCtorEq]; exact rfl) ?_
  exact ih (k + 1,r) ⟨by omega,⟨by omega,by omega⟩,hs⟩ (by show l.length - (k + 1) < l.length - k; omega)
 ·rw [if_neg hq] at hs
  repeat' (first | (with_reducible refine hY _ ?_; clear hY Y) | ((with_reducible first | refine au rfl (ay fun K' hK' => aa ?_) | refine hK' _ (ab fun Y hY => aa ?_) | refine bf rfl (ab fun Y hY => aa ?_) | refine ab fun Y hY => aa ?_ | refine ay fun K' hK' => aa ?_ | refine ac tk0 bN (ab fun Y hY => aa ?_) | refine aa ?_); (try clear hK' K'); (try dsimp only [aop]); try simp only [go_sem,↓reduceIte,Nat.reduceEqDiff,Nat.reduceLT,Nat.reduceLeDiff,Nat.reduceAdd,Nat.reduceSub,Nat.reduceMul,Nat.reduceBEq,Nat.reduceBNe,Nat.reducePow,Int.reduceToNat,Int.reduceLE,Int.reduceLT,Int.reduceMul,Int.reduceEq,Int.reducePow,Int.reduceAdd,Int.reduceSub,Int.reduceNeg,reduceCtorEq,bN,Tryz.results150,hlt',hz',hg1,hg2,hfl,hlw,hnw,hkw,hq]) | (with_reducible first | refine ag ?_ | refine aK ?_ | refine am ?_ | refine aq ?_ | refine aG fun K hK => ?_ | refine az ?_ | refine aA ?_ | refine ba ?_ | refine av ?_ | refine aH ?_) | (with_reducible refine hK _ ?_; clear hK K) | ((with_reducible first | refine aJ ?_ ?_ | refine ai ?_ ?_); (· decide)) | (with_reducible refine bm ?_ ?_; (· (try and_intros) <;> first | omega | assumption | (simp only [List.length_append,List.length_map,List.length_cons,List.length_nil] <;> omega))) | (with_reducible refine ae (h1) ?_))
  refine bg [0,1,2,7] (by simp only [go_sem,↓reduceIte,Nat.reduceEqDiff,Nat.reduceLT,Nat.reduceLeDiff,Nat.reduceAdd,Nat.reduceSub,Nat.reduceMul,Nat.reduceBEq,Nat.reduceBNe,Nat.reducePow,Int.reduceToNat,Int.reduceLE,Int.reduceLT,Int.reduceMul,Int.reduceEq,Int.reducePow,Int.reduceAdd,Int.reduceSub,Int.reduceNeg,reduceCtorEq]; exact rfl) ?_
  exact ih (k + 1,q) ⟨by omega,⟨by omega,by omega⟩,hs⟩ (by show l.length - (k + 1) < l.length - k; omega)
set_option maxRecDepth 100000 in
theorem ti : ∀ (d : Nat),d ≤ 1000 → ∀ (l : List PC) (left : Int) (b : Bool),Lg l → l9 l → fQ left → AFn Tryz.prog 150 [.sl (dc l) l.length (ofB b),inA left,inA (d : Int)] [] (inA (szC d l left)) []
 | 0,_,l,left,b,_,_,_ => by
  refine aM [] Tryz.func150 rfl Tryz.ntmps150 (Nat.le_of_ble_eq_true rfl) (Nat.le_of_ble_eq_true rfl) fun w0 G0 B0 Pr hB0 => ?_
  simp only [aW,aL,List.cons_append,List.nil_append]
  repeat' (first | (with_reducible refine hY _ ?_; clear hY Y) | ((with_reducible first | refine au rfl (ay fun K' hK' => aa ?_) | refine hK' _ (ab fun Y hY => aa ?_) | refine ab fun Y hY => aa ?_ | refine ac tk0 bN (ab fun Y hY => aa ?_) | refine aa ?_ | refine ax ?_); (try clear hK' K'); (try dsimp only [aop]); try simp only [go_sem,↓reduceIte,Nat.reduceEqDiff,Nat.reduceLT,Nat.reduceLeDiff,Nat.reduceAdd,Nat.reduceSub,Nat.reduceMul,Nat.reduceBEq,Nat.reduceBNe,Nat.reducePow,Int.reduceToNat,Int.reduceLE,Int.reduceLT,Int.reduceMul,Int.reduceEq,Int.reducePow,Int.reduceAdd,Int.reduceSub,Int.reduceNeg,reduceCtorEq,bN,Tryz.results150]) | (with_reducible first | refine ag ?_ | refine am ?_ | refine aq ?_ | refine aG fun K hK => ?_ | refine bh ?_ | refine aB ?_) | (with_reducible refine hK _ ?_; clear hK K) | ((with_reducible refine ai ?_ ?_); (· decide)) | ((with_reducible refine fi (fun hc => ?_) (fun hc => ?_)) <;> (try simp only [decide_eq_true_eq,decide_eq_false_iff_not,Bool.not_true,Bool.not_false,Bool.not_eq_true',Bool.not_eq_false'] at hc) <;> (try (exfalso; omega))))
  rfl
 | d + 1,hd,l,left,b,hl,ho,hf => Bw d (by omega) (ti d (by omega)) l left b hl ho hf _ rfl
theorem pg (e f : PE) : cl [e,f] = peA e ++ peA f := by simp [cl]
theorem ni (e : PC) : dc [e] = ci e := by simp [dc]
theorem Bq (e : PA) : ew [e] = paA e := by simp [ew]
theorem Br (e f : PA) : ew [e,f] = paA e ++ paA f := by simp [ew]
theorem lg1 {α : Type} (a : α) : Lg [a] := Nat.le_of_ble_eq_true rfl
theorem lg2 {α : Type} (a b : α) : Lg [a,b] := Nat.le_of_ble_eq_true rfl
def aX : Nat → List Nat
 | 0 => [0,1,2]
 | 1 => [0,1,2]
 | 2 => []
 | 3 => [0,1,2]
 | 4 => [0,1,2,7]
 | 5 => [0,1,2,7]
 | 6 => [0,1,2,7]
 | 7 => [0,1,2,7]
 | 8 => [0,1,2,7]
 | 9 => [0,1,2,7]
 | 10 => [0,1,2,7]
 | 11 => [0,1,2,7]
 | 12 => []
 | 13 => [1]
 | _ => []
set_option maxRecDepth 100000 in
set_option maxHeartbeats 8000000 in
theorem Bu (d : Nat) (hd : d ≤ 1000) (h : ∀ (l : List PA) (left : Int) (b : Bool),Lg l → kN l → fQ left → AFn Tryz.prog 62 [.sl (ew l) l.length (ofB b),inA left,inA (d : Int)] [] (inA (szA d l left)) []) (l : List PA) (left0 : Int) (b : Bool) (hl : Lg l) (ho : kN l) (hl0 : fQ left0) (n : Int) (hn : n = (d : Int) + 1) :
  AFn Tryz.prog 62 [.sl (ew l) l.length (ofB b),inA left0,inA n] [] (inA (lm d (szA d) l left0)) [] := by
 unfold Lg at hl
 have hn0 : (n = 0) = False := eq_false (by omega)
 have hn1 : (n == 0) = false := by simp; omega
 have hnw : IntKind.i64.wrap (n - 1) = (d : Int) := by rw [cF (by omega) (by omega)]; omega
 obtain ⟨R,hR⟩ : ∃ R,R = lm d (szA d) l left0 := ⟨_,rfl⟩
 rw [← hR]
 refine aM [] Tryz.func62 rfl Tryz.ntmps62 (Nat.le_of_ble_eq_true rfl) (Nat.le_of_ble_eq_true rfl) fun w0 G0 B0 Pr hB0 => ?_
 simp only [aW,aL,List.cons_append,List.nil_append]
 repeat' (first | (with_reducible refine hY _ ?_; clear hY Y) | ((with_reducible first | refine au rfl (ay fun K' hK' => aa ?_) | refine hK' _ (ab fun Y hY => aa ?_) | refine ab fun Y hY => aa ?_ | refine ac tk0 aX (ab fun Y hY => aa ?_)); (try clear hK' K'); (try dsimp only [aop]); try simp only [go_sem,↓reduceIte,Nat.reduceEqDiff,Nat.reduceLT,Nat.reduceLeDiff,Nat.reduceAdd,Nat.reduceSub,Nat.reduceMul,Nat.reduceBEq,Nat.reduceBNe,Nat.reducePow,Int.reduceToNat,Int.reduceLE,Int.reduceLT,Int.reduceMul,Int.reduceEq,Int.reducePow,Int.reduceAdd,Int.reduceSub,Int.reduceNeg,reduceCtorEq,aX,Tryz.results62,hn0,hn1]) | (with_reducible first | refine ag ?_ | refine am ?_ | refine aq ?_ | refine aG fun K hK => ?_ | refine aA ?_ | refine av ?_ | refine aH ?_ | refine bR ?_) | (with_reducible refine hK _ ?_; clear hK K) | ((with_reducible refine ai ?_ ?_); (· decide)))
 refine bX (α := Nat × Int) (fun p => [(0,.sl (ew l) l.length (ofB b)),(1,inA p.2),(2,inA n),(7,inA (p.1 : Int))])
  (fun p => p.1 ≤ l.length ∧ fQ p.2 ∧ lm d (szA d) (l.drop p.1) p.2 = R) (fun p => l.length - p.1) (0,left0) [0,1,2,7] ?_ ⟨Nat.zero_le _,hl0,hR.symm⟩ ?_
 ·simp only [go_sem,↓reduceIte,Nat.reduceEqDiff,Nat.reduceLT,Nat.reduceLeDiff,Nat.reduceAdd,Nat.reduceSub,Nat.reduceMul,Nat.reduceBEq,Nat.reduceBNe,Nat.reducePow,Int.reduceToNat,Int.reduceLE,Int.reduceLT,Int.reduceMul,Int.reduceEq,Int.reducePow,Int.reduceAdd,Int.reduceSub,Int.reduceNeg,reduceCtorEq] <;> rfl
 rintro ⟨k,left⟩ ⟨hk,hlf,hs⟩ ih
 simp only at hk hlf hs ih ⊢
 clear hR hl0
 by_cases hlt : k < l.length
 case neg =>
  have hlt' : ((k : Int) < (l.length : Int)) = False := eq_false (by omega)
  rw [List.drop_of_length_le (by omega)] at hs
  unfold lm at hs
  subst hs
  repeat' (first | (with_reducible refine hY _ ?_; clear hY Y) | ((with_reducible first | refine au rfl (ay fun K' hK' => aa ?_) | refine hK' _ (ab fun Y hY => aa ?_) | refine bf rfl (ab fun Y hY => aa ?_) | refine ab fun Y hY => aa ?_ | refine ac tk0 aX (ab fun Y hY => aa ?_) | refine aa ?_ | refine ax ?_); (try clear hK' K'); (try dsimp only [aop]); try simp only [go_sem,↓reduceIte,Nat.reduceEqDiff,Nat.reduceLT,Nat.reduceLeDiff,Nat.reduceAdd,Nat.reduceSub,Nat.reduceMul,Nat.reduceBEq,Nat.reduceBNe,Nat.reducePow,Int.reduceToNat,Int.reduceLE,Int.reduceLT,Int.reduceMul,Int.reduceEq,Int.reducePow,Int.reduceAdd,Int.reduceSub,Int.reduceNeg,reduceCtorEq,aX,Tryz.results62,hlt']) | (with_reducible first | refine ag ?_ | refine aU rfl ?_ | refine cN ?_ ?_ | refine am ?_ | refine aq ?_ | refine aG fun K hK => ?_ | refine aA ?_ | refine bY ?_ | refine bF ?_ | refine aB ?_ | refine bE ?_) | (with_reducible refine hK _ ?_; clear hK K) | ((with_reducible first | refine aJ ?_ ?_ | refine ai ?_ ?_); (· decide)))
 have hlt' : ((k : Int) < (l.length : Int)) = True := eq_true (by omega)
 have hkw : IntKind.i64.wrap ((k : Int) + 1) = ((k + 1 : Nat) : Int) := by rw [cF (by omega) (by omega)]; rfl
 have hg1 := lL hlt 1 3 (by decide)
 have hg4 := lL hlt 4 4 (by decide)
 have hg8 := lL hlt 8 4 (by decide)
 have hg12 := sZ hlt 12 (by decide)
 have hg14 := sZ hlt 14 (by decide)
 have hfl := ku l
 have hok := lf ho l[k] (List.getElem_mem hlt)
 rw [List.drop_eq_getElem_cons hlt] at hs
 generalize l[k] = e at *
 obtain ⟨ak,c,e,v,x,an,ks⟩ := e
 obtain ⟨_,hc,he,hv,_,_,hks,hko⟩ := hok
 unfold lm at hs
 by_cases hz : left < 0
 ·rw [if_pos hz] at hs
  subst hs
  have hz' : ((0 : Int) ≤ left) = False := eq_false (by omega)
  repeat' (first | (with_reducible refine hY _ ?_; clear hY Y) | ((with_reducible first | refine au rfl (ay fun K' hK' => aa ?_) | refine hK' _ (ab fun Y hY => aa ?_) | refine bf rfl (ab fun Y hY => aa ?_) | refine ab fun Y hY => aa ?_ | refine ay fun K' hK' => aa ?_ | refine ac tk0 aX (ab fun Y hY => aa ?_) | refine aa ?_ | refine ax ?_); (try clear hK' K'); (try dsimp only [aop]); try simp only [go_sem,↓reduceIte,Nat.reduceEqDiff,Nat.reduceLT,Nat.reduceLeDiff,Nat.reduceAdd,Nat.reduceSub,Nat.reduceMul,Nat.reduceBEq,Nat.reduceBNe,Nat.reducePow,Int.reduceToNat,Int.reduceLE,Int.reduceLT,Int.reduceMul,Int.reduceEq,Int.reducePow,Int.reduceAdd,Int.reduceSub,Int.reduceNeg,reduceCtorEq,aX,Tryz.results62,hlt',hz']) | (with_reducible first | refine ag ?_ | refine aK ?_ | refine am ?_ | refine aq ?_ | refine aG fun K hK => ?_ | refine aA ?_ | refine bY ?_ | refine bF ?_ | refine aB ?_ | refine bE ?_) | (with_reducible refine hK _ ?_; clear hK K) | ((with_reducible first | refine aJ ?_ ?_ | refine ai ?_ ?_); (· decide)))
 rw [if_neg hz] at hs
 have hz' : ((0 : Int) ≤ left) = True := eq_true (by omega)
 have hlw : IntKind.i64.wrap (left - 1) = left - 1 := cF (by omega) (by omega)
 have h1 := ti d hd [c] (left - 1) true (lg1 _) ⟨hc,trivial⟩ ⟨by omega,by omega⟩
 have h2 := lY d [c] (left - 1) (by omega)
 generalize szC d [c] (left - 1) = s0 at *
 have h3 := lS d hd [e,v] s0 true (lg2 _ _) ⟨he,hv,trivial⟩ ⟨by omega,by omega⟩
 have h4 := iK d [e,v] s0 (by omega)
 have hs1 : dK s0 (szE d [e,v]) = if 0 ≤ s0 then szE d [e,v] s0 else s0 := rfl
 rw [hs1] at hs
 clear hs1
 generalize szE d [e,v] s0 = s1 at *
 have h5 := h ks s1 false hks hko ⟨by omega,by omega⟩
 have h6 := nY d ks s1 (by omega)
 rw [ni] at h1
 rw [pg] at h3
 obtain ⟨ck,ce,cks⟩ := c
 obtain ⟨ek,en,ex,eks⟩ := e
 obtain ⟨vk,vn,vx,vks⟩ := v
 simp only [paA,ci,peA,List.cons_append,List.nil_append,List.getD_cons_succ,List.getD_cons_zero,List.drop_succ_cons,List.drop_zero,List.take_succ_cons,List.take_zero] at hg1 hg4 hg8 hg12 hg14
 simp only [ci,peA,ofB,List.length_cons,List.length_nil,Nat.reduceAdd,List.cons_append,List.nil_append] at h1 h3 h5
 have hx : x.length = x.length := rfl
 rcases (by omega : ¬ 0 ≤ s0 ∨ (0 ≤ s0 ∧ ¬ 0 ≤ s1) ∨ (0 ≤ s0 ∧ 0 ≤ s1)) with c0 | ⟨c0,c1⟩ | ⟨c0,c1⟩
 ·rw [if_neg c0] at hs
  rw [show dK s0 (szA d ks) = s0 from if_neg c0] at hs
  by_cases hx2 : 200 < x.length
  ·rw [if_pos hx2] at hs
   subst hs
   have hx' : ((200 : Int) < (x.length : Int)) = True := eq_true (by omega)
   repeat' (first | (with_reducible refine hY _ ?_; clear hY Y) | ((with_reducible first | refine au rfl (ay fun K' hK' => aa ?_) | refine hK' _ (ab fun Y hY => aa ?_) | refine bf rfl (ab fun Y hY => aa ?_) | refine ab fun Y hY => aa ?_ | refine ay fun K' hK' => aa ?_ | refine ac tk0 aX (ab fun Y hY => aa ?_) | refine aa ?_ | refine ax ?_); (try clear hK' K'); (try dsimp only [aop]); try simp only [go_sem,↓reduceIte,Nat.reduceEqDiff,Nat.reduceLT,Nat.reduceLeDiff,Nat.reduceAdd,Nat.reduceSub,Nat.reduceMul,Nat.reduceBEq,Nat.reduceBNe,Nat.reducePow,Int.reduceToNat,Int.reduceLE,Int.reduceLT,Int.reduceMul,Int.reduceEq,Int.reducePow,Int.reduceAdd,Int.reduceSub,Int.reduceNeg,reduceCtorEq,aX,Tryz.results62,hlt',hz',hg1,hg4,hg8,hg12,hg14,hfl,hlw,hnw,hkw,c0,hx']) | (with_reducible first | refine ag ?_ | refine aK ?_ | refine am ?_ | refine aq ?_ | refine aG fun K hK => ?_ | refine az ?_ | refine aA ?_ | refine bh ?_ | refine bp ?_ | refine av ?_ | refine aH ?_ | refine aB ?_) | (with_reducible refine hK _ ?_; clear hK K) | ((with_reducible first | refine aJ ?_ ?_ | refine ai ?_ ?_); (· decide)) | (with_reducible refine bm ?_ ?_; (· (try and_intros) <;> first | omega | assumption | (simp only [List.length_append,List.length_map,List.length_cons,List.length_nil] <;> omega))) | (with_reducible refine ae (h1) ?_))
  ·rw [if_neg hx2] at hs
   have hx' : ((200 : Int) < (x.length : Int)) = False := eq_false (by omega)
   repeat' (first | (with_reducible refine hY _ ?_; clear hY Y) | ((with_reducible first | refine au rfl (ay fun K' hK' => aa ?_) | refine hK' _ (ab fun Y hY => aa ?_) | refine bf rfl (ab fun Y hY => aa ?_) | refine ab fun Y hY => aa ?_ | refine ay fun K' hK' => aa ?_ | refine ac tk0 aX (ab fun Y hY => aa ?_) | refine aa ?_); (try clear hK' K'); (try dsimp only [aop]); try simp only [go_sem,↓reduceIte,Nat.reduceEqDiff,Nat.reduceLT,Nat.reduceLeDiff,Nat.reduceAdd,Nat.reduceSub,Nat.reduceMul,Nat.reduceBEq,Nat.reduceBNe,Nat.reducePow,Int.reduceToNat,Int.reduceLE,Int.reduceLT,Int.reduceMul,Int.reduceEq,Int.reducePow,Int.reduceAdd,Int.reduceSub,Int.reduceNeg,reduceCtorEq,aX,Tryz.results62,hlt',hz',hg1,hg4,hg8,hg12,hg14,hfl,hlw,hnw,hkw,c0,hx']) | (with_reducible first | refine ag ?_ | refine aK ?_ | refine am ?_ | refine aq ?_ | refine aG fun K hK => ?_ | refine az ?_ | refine aA ?_ | refine ba ?_ | refine av ?_ | refine aH ?_) | (with_reducible refine hK _ ?_; clear hK K) | ((with_reducible first | refine aJ ?_ ?_ | refine ai ?_ ?_); (· decide)) | (with_reducible refine bm ?_ ?_; (· (try and_intros) <;> first | omega | assumption | (simp only [List.length_append,List.length_map,List.length_cons,List.length_nil] <;> omega))) | (with_reducible refine ae (h1) ?_))
   refine bg [0,1,2,7] (by simp only [go_sem,↓reduceIte,Nat.reduceEqDiff,Nat.reduceLT,Nat.reduceLeDiff,Nat.reduceAdd,Nat.reduceSub,Nat.reduceMul,Nat.reduceBEq,Nat.reduceBNe,Nat.reducePow,Int.reduceToNat,Int.reduceLE,Int.reduceLT,Int.reduceMul,Int.reduceEq,Int.reducePow,Int.reduceAdd,Int.reduceSub,Int.reduceNeg,reduceCtorEq]; exact rfl) ?_
   exact ih (k + 1,s0) ⟨by omega,⟨by omega,by omega⟩,hs⟩ (by show l.length - (k + 1) < l.length - k; omega)
 ·rw [if_pos c0] at hs
  rw [show dK s1 (szA d ks) = s1 from if_neg c1] at hs
  by_cases hx2 : 200 < x.length
  ·rw [if_pos hx2] at hs
   subst hs
   have hx' : ((200 : Int) < (x.length : Int)) = True := eq_true (by omega)
   repeat' (first | (with_reducible refine hY _ ?_; clear hY Y) | ((with_reducible first | refine au rfl (ay fun K' hK' => aa ?_) | refine hK' _ (ab fun Y hY => aa ?_) | refine bf rfl (ab fun Y hY => aa ?_) | refine ab fun Y hY => aa ?_ | refine ay fun K' hK' => aa ?_ | refine ac tk0 aX (ab fun Y hY => aa ?_) | refine aa ?_ | refine ax ?_ | refine cG rfl (cQ fun K' hK' => aa ?_) | refine hK' _ _ (ab fun Y hY => aa ?_)); (try clear hK' K'); (try dsimp only [aop]); try simp only [go_sem,↓reduceIte,Nat.reduceEqDiff,Nat.reduceLT,Nat.reduceLeDiff,Nat.reduceAdd,Nat.reduceSub,Nat.reduceMul,Nat.reduceBEq,Nat.reduceBNe,Nat.reducePow,Int.reduceToNat,Int.reduceLE,Int.reduceLT,Int.reduceMul,Int.reduceEq,Int.reducePow,Int.reduceAdd,Int.reduceSub,Int.reduceNeg,reduceCtorEq,aX,Tryz.results62,hlt',hz',hg1,hg4,hg8,hg12,hg14,hfl,hlw,hnw,hkw,c0,c1,hx']) | (with_reducible first | refine ag ?_ | refine aK ?_ | refine am ?_ | refine aq ?_ | refine aG fun K hK => ?_ | refine az ?_ | refine aA ?_ | refine bh ?_ | refine bp ?_ | refine av ?_ | refine aH ?_ | refine aB ?_ | refine bK ?_ | refine ef fun K hK => ?_) | (with_reducible refine hK _ ?_; clear hK K) | (with_reducible refine hK _ _ ?_ ?_; (· kernel_rfl); clear hK K) | ((with_reducible first | refine aJ ?_ ?_ | refine ai ?_ ?_); (· decide)) | (with_reducible refine bV tk0 aX ?_ ?_; (· kernel_rfl)) | (with_reducible refine bm ?_ ?_; (· (try and_intros) <;> first | omega | assumption | (simp only [List.length_append,List.length_map,List.length_cons,List.length_nil] <;> omega))) | (with_reducible refine ae (h1) ?_) | (with_reducible refine ae (h3) ?_))
  ·rw [if_neg hx2] at hs
   have hx' : ((200 : Int) < (x.length : Int)) = False := eq_false (by omega)
   repeat' (first | (with_reducible refine hY _ ?_; clear hY Y) | ((with_reducible first | refine au rfl (ay fun K' hK' => aa ?_) | refine hK' _ (ab fun Y hY => aa ?_) | refine bf rfl (ab fun Y hY => aa ?_) | refine ab fun Y hY => aa ?_ | refine ay fun K' hK' => aa ?_ | refine ac tk0 aX (ab fun Y hY => aa ?_) | refine aa ?_ | refine cG rfl (cQ fun K' hK' => aa ?_) | refine hK' _ _ (ab fun Y hY => aa ?_)); (try clear hK' K'); (try dsimp only [aop]); try simp only [go_sem,↓reduceIte,Nat.reduceEqDiff,Nat.reduceLT,Nat.reduceLeDiff,Nat.reduceAdd,Nat.reduceSub,Nat.reduceMul,Nat.reduceBEq,Nat.reduceBNe,Nat.reducePow,Int.reduceToNat,Int.reduceLE,Int.reduceLT,Int.reduceMul,Int.reduceEq,Int.reducePow,Int.reduceAdd,Int.reduceSub,Int.reduceNeg,reduceCtorEq,aX,Tryz.results62,hlt',hz',hg1,hg4,hg8,hg12,hg14,hfl,hlw,hnw,hkw,c0,c1,hx']) | (with_reducible first | refine ag ?_ | refine aK ?_ | refine am ?_ | refine aq ?_ | refine aG fun K hK => ?_ | refine az ?_ | refine aA ?_ | refine ba ?_ | refine av ?_ | refine aH ?_ | refine bK ?_ | refine ef fun K hK => ?_) | (with_reducible refine hK _ ?_; clear hK K) | (with_reducible refine hK _ _ ?_ ?_; (· kernel_rfl); clear hK K) | ((with_reducible first | refine aJ ?_ ?_ | refine ai ?_ ?_); (· decide)) | (with_reducible refine bV tk0 aX ?_ ?_; (· kernel_rfl)) | (with_reducible refine bm ?_ ?_; (· (try and_intros) <;> first | omega | assumption | (simp only [List.length_append,List.length_map,List.length_cons,List.length_nil] <;> omega))) | (with_reducible refine ae (h1) ?_) | (with_reducible refine ae (h3) ?_))
   refine bg [0,1,2,7] (by simp only [go_sem,↓reduceIte,Nat.reduceEqDiff,Nat.reduceLT,Nat.reduceLeDiff,Nat.reduceAdd,Nat.reduceSub,Nat.reduceMul,Nat.reduceBEq,Nat.reduceBNe,Nat.reducePow,Int.reduceToNat,Int.reduceLE,Int.reduceLT,Int.reduceMul,Int.reduceEq,Int.reducePow,Int.reduceAdd,Int.reduceSub,Int.reduceNeg,reduceCtorEq]; exact rfl) ?_
   exact ih (k + 1,s1) ⟨by omega,⟨by omega,by omega⟩,hs⟩ (by show l.length - (k + 1) < l.length - k; omega)
 ·rw [if_pos c0] at hs
  rw [show dK s1 (szA d ks) = szA d ks s1 from if_pos c1] at hs
  generalize szA d ks s1 = s2 at *
  by_cases hx2 : 200 < x.length
  ·rw [if_pos hx2] at hs
   subst hs
   have hx' : ((200 : Int) < (x.length : Int)) = True := eq_true (by omega)
   repeat' (first | (with_reducible refine hY _ ?_; clear hY Y) | ((with_reducible first | refine au rfl (ay fun K' hK' => aa ?_) | refine hK' _ (ab fun Y hY => aa ?_) | refine bf rfl (ab fun Y hY => aa ?_) | refine ab fun Y hY => aa ?_ | refine ay fun K' hK' => aa ?_ | refine ac tk0 aX (ab fun Y hY => aa ?_) | refine aa ?_ | refine ax ?_ | refine cG rfl (cQ fun K' hK' => aa ?_) | refine hK' _ _ (ab fun Y hY => aa ?_)); (try clear hK' K'); (try dsimp only [aop]); try simp only [go_sem,↓reduceIte,Nat.reduceEqDiff,Nat.reduceLT,Nat.reduceLeDiff,Nat.reduceAdd,Nat.reduceSub,Nat.reduceMul,Nat.reduceBEq,Nat.reduceBNe,Nat.reducePow,Int.reduceToNat,Int.reduceLE,Int.reduceLT,Int.reduceMul,Int.reduceEq,Int.reducePow,Int.reduceAdd,Int.reduceSub,Int.reduceNeg,reduceCtorEq,aX,Tryz.results62,hlt',hz',hg1,hg4,hg8,hg12,hg14,hfl,hlw,hnw,hkw,c0,c1,hx']) | (with_reducible first | refine ag ?_ | refine aK ?_ | refine am ?_ | refine aq ?_ | refine aG fun K hK => ?_ | refine az ?_ | refine bh ?_ | refine bp ?_ | refine av ?_ | refine aH ?_ | refine aB ?_ | refine bK ?_ | refine ef fun K hK => ?_) | (with_reducible refine hK _ ?_; clear hK K) | (with_reducible refine hK _ _ ?_ ?_; (· kernel_rfl); clear hK K) | ((with_reducible first | refine aJ ?_ ?_ | refine ai ?_ ?_); (· decide)) | (with_reducible refine bV tk0 aX ?_ ?_; (· kernel_rfl)) | (with_reducible refine bm ?_ ?_; (· (try and_intros) <;> first | omega | assumption | (simp only [List.length_append,List.length_map,List.length_cons,List.length_nil] <;> omega))) | (with_reducible refine ae (h1) ?_) | (with_reducible refine ae (h3) ?_) | (with_reducible refine ae (h5) ?_))
  ·rw [if_neg hx2] at hs
   have hx' : ((200 : Int) < (x.length : Int)) = False := eq_false (by omega)
   repeat' (first | (with_reducible refine hY _ ?_; clear hY Y) | ((with_reducible first | refine au rfl (ay fun K' hK' => aa ?_) | refine hK' _ (ab fun Y hY => aa ?_) | refine bf rfl (ab fun Y hY => aa ?_) | refine ab fun Y hY => aa ?_ | refine ay fun K' hK' => aa ?_ | refine ac tk0 aX (ab fun Y hY => aa ?_) | refine aa ?_ | refine cG rfl (cQ fun K' hK' => aa ?_) | refine hK' _ _ (ab fun Y hY => aa ?_)); (try clear hK' K'); (try dsimp only [aop]); try simp only [go_sem,↓reduceIte,Nat.reduceEqDiff,Nat.reduceLT,Nat.reduceLeDiff,Nat.reduceAdd,Nat.reduceSub,Nat.reduceMul,Nat.reduceBEq,Nat.reduceBNe,Nat.reducePow,Int.reduceToNat,Int.reduceLE,Int.reduceLT,Int.reduceMul,Int.reduceEq,Int.reducePow,Int.reduceAdd,Int.reduceSub,Int.reduceNeg,reduceCtorEq,aX,Tryz.results62,hlt',hz',hg1,hg4,hg8,hg12,hg14,hfl,hlw,hnw,hkw,c0,c1,hx']) | (with_reducible first | refine ag ?_ | refine aK ?_ | refine am ?_ | refine aq ?_ | refine aG fun K hK => ?_ | refine az ?_ | refine aA ?_ | refine ba ?_ | refine av ?_ | refine aH ?_ | refine bK ?_ | refine ef fun K hK => ?_) | (with_reducible refine hK _ ?_; clear hK K) | (with_reducible refine hK _ _ ?_ ?_; (· kernel_rfl); clear hK K) | ((with_reducible first | refine aJ ?_ ?_ | refine ai ?_ ?_); (· decide)) | (with_reducible refine bV tk0 aX ?_ ?_; (· kernel_rfl)) | (with_reducible refine bm ?_ ?_; (· (try and_intros) <;> first | omega | assumption | (simp only [List.length_append,List.length_map,List.length_cons,List.length_nil] <;> omega))) | (with_reducible refine ae (h1) ?_) | (with_reducible refine ae (h3) ?_) | (with_reducible refine ae (h5) ?_))
   refine bg [0,1,2,7] (by simp only [go_sem,↓reduceIte,Nat.reduceEqDiff,Nat.reduceLT,Nat.reduceLeDiff,Nat.reduceAdd,Nat.reduceSub,Nat.reduceMul,Nat.reduceBEq,Nat.reduceBNe,Nat.reducePow,Int.reduceToNat,Int.reduceLE,Int.reduceLT,Int.reduceMul,Int.reduceEq,Int.reducePow,Int.reduceAdd,Int.reduceSub,Int.reduceNeg,reduceCtorEq]; exact rfl) ?_
   exact ih (k + 1,s2) ⟨by omega,⟨by omega,by omega⟩,hs⟩ (by show l.length - (k + 1) < l.length - k; omega)
set_option maxRecDepth 100000 in
theorem th : ∀ (d : Nat),d ≤ 1000 → ∀ (l : List PA) (left : Int) (b : Bool),Lg l → kN l → fQ left → AFn Tryz.prog 62 [.sl (ew l) l.length (ofB b),inA left,inA (d : Int)] [] (inA (szA d l left)) []
 | 0,_,l,left,b,_,_,_ => by
  refine aM [] Tryz.func62 rfl Tryz.ntmps62 (Nat.le_of_ble_eq_true rfl) (Nat.le_of_ble_eq_true rfl) fun w0 G0 B0 Pr hB0 => ?_
  simp only [aW,aL,List.cons_append,List.nil_append]
  repeat' (first | (with_reducible refine hY _ ?_; clear hY Y) | ((with_reducible first | refine au rfl (ay fun K' hK' => aa ?_) | refine hK' _ (ab fun Y hY => aa ?_) | refine ab fun Y hY => aa ?_ | refine ac tk0 aX (ab fun Y hY => aa ?_) | refine aa ?_ | refine ax ?_); (try clear hK' K'); (try dsimp only [aop]); try simp only [go_sem,↓reduceIte,Nat.reduceEqDiff,Nat.reduceLT,Nat.reduceLeDiff,Nat.reduceAdd,Nat.reduceSub,Nat.reduceMul,Nat.reduceBEq,Nat.reduceBNe,Nat.reducePow,Int.reduceToNat,Int.reduceLE,Int.reduceLT,Int.reduceMul,Int.reduceEq,Int.reducePow,Int.reduceAdd,Int.reduceSub,Int.reduceNeg,reduceCtorEq,aX,Tryz.results62]) | (with_reducible first | refine ag ?_ | refine am ?_ | refine aq ?_ | refine aG fun K hK => ?_ | refine bh ?_ | refine aB ?_) | (with_reducible refine hK _ ?_; clear hK K) | ((with_reducible refine ai ?_ ?_); (· decide)) | ((with_reducible refine fi (fun hc => ?_) (fun hc => ?_)) <;> (try simp only [decide_eq_true_eq,decide_eq_false_iff_not,Bool.not_true,Bool.not_false,Bool.not_eq_true',Bool.not_eq_false'] at hc) <;> (try (exfalso; omega))))
  rfl
 | d + 1,hd,l,left,b,hl,ho,hf => Bu d (by omega) (th d (by omega)) l left b hl ho hf _ rfl
end Go.Proofs.YtkjnkkmokojnpaaGreatDoor
