/- Which expressions, conditions can be shown, in K. -/
import Derived.Test.YtkjnkkmokojnpaaGreatDoorZ14
namespace Go.Proofs.YtkjnkkmokojnpaaGreatDoor
set_option linter.unusedSimpArgs false
set_option linter.unusedVariables false
open Go.RowKit
theorem fD {α : Type} {P : α → Prop} {a : α} {l : List α} (h : P a) (k : ∀ e ∈ l,P e) : ∀ e ∈ a :: l,P e := fun e he => by
 rcases List.mem_cons.1 he with rfl | he
 ·exact h
 ·exact k e he
theorem qx : ∀ l : List PE,hI l = l.all seE
 | [] => rfl
 | e :: r => by rw [hI,List.all_cons,qx r]
theorem nu : ∀ l : List PC,mr l = l.all seC
 | [] => rfl
 | e :: r => by rw [mr,List.all_cons,nu r]
theorem nt : ∀ l : List PA,mq l = l.all seA
 | [] => rfl
 | e :: r => by rw [mq,List.all_cons,nt r]
theorem ny : ∀ l : List PS',ig l = l.all seS
 | [] => rfl
 | e :: r => by rw [ig,List.all_cons,ny r]
abbrev ii (e : PE) : Prop := AFn Tryz.prog 111 [.agg (peA e)] [] (.c (.bool (seE e))) []
def gN : Nat → List Nat
 | 0 => [0]
 | 1 => [1]
 | _ => []
set_option maxRecDepth 100000 in
theorem yA (e : PE) (h : ii e) : AFn Tryz.prog 214 [.agg (peA e)] [] (.c (.bool (!seE e))) [] := by
 unfold ii at h
 generalize seE e = p at *
 obtain ⟨k,n,x,ks⟩ := e
 simp only [peA] at h ⊢
 refine aM [] Tryz.func214 rfl Tryz.ntmps214 (Nat.le_of_ble_eq_true rfl) (Nat.le_of_ble_eq_true rfl) fun w0 G0 B0 Pr hB0 => ?_
 simp only [aW,aL,List.cons_append,List.nil_append]
 repeat' (first | (with_reducible refine hY _ ?_; clear hY Y) | ((with_reducible first | refine au rfl (ay fun K' hK' => aa ?_) | refine hK' _ (ab fun Y hY => aa ?_) | refine ac tk0 gN (ab fun Y hY => aa ?_) | refine aa ?_ | refine ax ?_); (try clear hK' K'); (try dsimp only [aop]); try simp only [go_sem,seval,gN,Tryz.results214]) | (with_reducible first | refine ag ?_ | refine am ?_ | refine aq ?_ | refine aG fun K hK => ?_ | refine aB ?_) | (with_reducible refine hK _ ?_; clear hK K) | (with_reducible refine ae (h) ?_))
def im : Nat → List Nat
 | 0 => [0]
 | 1 => [0]
 | _ => []
set_option maxRecDepth 100000 in
theorem tY (l : List PE) (hl : Lg l) (h : ∀ e ∈ l,ii e) : AFn Tryz.prog 181 [.sl (cl l) l.length .none] [] (.c (.bool (hI l))) [] := by
 have h1 := Ay l 214 (fun x => !seE x) rfl hl fun y hy => yA y (h y hy)
 have h2 : (!l.any fun x => !seE x) = hI l := by rw [mG,qx]
 refine aM [] Tryz.func181 rfl Tryz.ntmps181 (Nat.le_of_ble_eq_true rfl) (Nat.le_of_ble_eq_true rfl) fun w0 G0 B0 Pr hB0 => ?_
 simp only [aW,aL,List.cons_append,List.nil_append]
 repeat' (first | (with_reducible refine hY _ ?_; clear hY Y) | ((with_reducible first | refine au rfl (ay fun K' hK' => aa ?_) | refine hK' _ (ab fun Y hY => aa ?_) | refine ac tk0 im (ab fun Y hY => aa ?_) | refine aa ?_ | refine ax ?_); (try clear hK' K'); (try dsimp only [aop]); try simp only [go_sem,seval,im,Tryz.results181,h2]) | (with_reducible first | refine ag ?_ | refine am ?_ | refine aq ?_ | refine aG fun K hK => ?_ | refine aB ?_) | (with_reducible refine hK _ ?_; clear hK K) | (with_reducible refine ae (h1) ?_))
def eY : Nat → List Nat
 | 0 => [0]
 | 1 => [1]
 | 2 => [1,3]
 | 3 => []
 | 4 => [1,3,13]
 | 5 => [1,3]
 | 6 => [1,3,13]
 | 7 => [1]
 | 8 => [1,3,13]
 | 9 => [1,3,13]
 | 10 => [1]
 | 11 => [1,3,13]
 | 12 => [1,3]
 | 13 => [1,3]
 | _ => []
set_option maxRecDepth 100000 in
set_option maxHeartbeats 8000000 in
theorem C2 (k n : Int) (x : Wd) (ks : List PE) (hx : Lg x) (h : AFn Tryz.prog 181 [.sl (cl ks) ks.length .none] [] (.c (.bool (hI ks))) []) : ii (.mk k n x ks) := by
 unfold ii
 rw [seE]
 have h1 := i9 x (by unfold Lg at hx; omega)
 simp only [peA]
 generalize hI ks = p at *
 rcases (by omega : k = 0 ∨ k = 1 ∨ k = 2 ∨ k = 3 ∨ k = 4 ∨ (¬ k = 0 ∧ ¬ k = 1 ∧ ¬ k = 2 ∧ ¬ k = 3 ∧ ¬ k = 4)) with rfl | rfl | rfl | rfl | rfl | ⟨g0,g1,g2,g3,g4⟩
 case inr.inr.inr.inr.inr =>
  have hR : sy k n x ks.length = false := by simp [sy,g0,g1,g2,g3,g4]
  rw [hR]
  refine aM [] Tryz.func111 rfl Tryz.ntmps111 (Nat.le_of_ble_eq_true rfl) (Nat.le_of_ble_eq_true rfl) fun w0 G0 B0 Pr hB0 => ?_
  simp only [aW,aL,List.cons_append,List.nil_append]
  repeat' (first | (with_reducible refine hY _ ?_; clear hY Y) | ((with_reducible first | refine au rfl (ay fun K' hK' => aa ?_) | refine hK' _ (ab fun Y hY => aa ?_) | refine bf rfl (ab fun Y hY => aa ?_) | refine ab fun Y hY => aa ?_ | refine ay fun K' hK' => aa ?_ | refine ac tk0 eY (ab fun Y hY => aa ?_) | refine aa ?_ | refine ax ?_); (try clear hK' K'); (try dsimp only [aop]); try simp only [go_sem,seval,eY,Tryz.results111,g0,g1,g2,g3,g4]) | (with_reducible first | refine ag ?_ | refine aU rfl ?_ | refine aK ?_ | refine cN ?_ ?_ | refine am ?_ | refine aq ?_ | refine aG fun K hK => ?_ | refine aA ?_ | refine bh ?_ | refine bp ?_ | refine av ?_ | refine aB ?_) | (with_reducible refine hK _ ?_; clear hK K) | ((with_reducible first | refine aJ ?_ ?_ | refine ai ?_ ?_); (· decide)) | ((with_reducible refine bP (fun hc => ?_) (fun hc => ?_)) <;> (try simp only [decide_eq_true_eq,decide_eq_false_iff_not,Bool.not_true,Bool.not_false,Bool.not_eq_true',Bool.not_eq_false'] at hc) <;> (try (exfalso; omega))))
  all_goals rfl
 all_goals simp only [sy,iC,reduceCtorEq,Int.reduceEq,if_true,if_false,or_false,false_or,true_or,or_true]
 all_goals generalize dM x = b at *
 all_goals
  refine aM [] Tryz.func111 rfl Tryz.ntmps111 (Nat.le_of_ble_eq_true rfl) (Nat.le_of_ble_eq_true rfl) fun w0 G0 B0 Pr hB0 => ?_
  simp only [aW,aL,List.cons_append,List.nil_append]
 all_goals
  repeat' (first | (with_reducible refine hY _ ?_; clear hY Y) | ((with_reducible first | refine au rfl (ay fun K' hK' => aa ?_) | refine hK' _ (ab fun Y hY => aa ?_) | refine bf rfl (ab fun Y hY => aa ?_) | refine ab fun Y hY => aa ?_ | refine ay fun K' hK' => aa ?_ | refine ac tk0 eY (ab fun Y hY => aa ?_) | refine aa ?_ | refine ax ?_); (try clear hK' K'); (try dsimp only [aop]); try simp only [go_sem,seval,eY,Tryz.results111]) | (with_reducible first | refine ag ?_ | refine aU rfl ?_ | refine aK ?_ | refine cN ?_ ?_ | refine am ?_ | refine aq ?_ | refine aG fun K hK => ?_ | refine az ?_ | refine aA ?_ | refine ba ?_ | refine av ?_ | refine aH ?_ | refine aB ?_) | (with_reducible refine hK _ ?_; clear hK K) | ((with_reducible first | refine aJ ?_ ?_ | refine ai ?_ ?_); (· decide)) | ((with_reducible refine bP (fun hc => ?_) (fun hc => ?_)) <;> (try simp only [decide_eq_true_eq,decide_eq_false_iff_not,Bool.not_true,Bool.not_false,Bool.not_eq_true',Bool.not_eq_false'] at hc) <;> (try (exfalso; omega))) | (with_reducible refine ae (h) ?_) | (with_reducible refine ae (h1) ?_) | (with_reducible refine bv (bW _) ?_))
 all_goals (clear h h1; cases x <;> simp_all <;> omega)
mutual
theorem kS : ∀ e,OkE e → ii e
 | .mk k n x ks,h => C2 k n x ks h.2.2.1 (tY ks h.2.2.2.1 (pQ ks h.2.2.2.2))
theorem pQ : ∀ l,ir l → ∀ e ∈ l,ii e
 | [],_ => fun e he => absurd he List.not_mem_nil
 | a :: l,h => fD (kS a h.1) (pQ l h.2)
end
theorem pS (l : List PE) (hl : Lg l) (h : ir l) : AFn Tryz.prog 181 [.sl (cl l) l.length .none] [] (.c (.bool (hI l))) [] := tY l hl (pQ l h)
abbrev jw (e : PE) : Prop := AFn Tryz.prog 123 [.agg (peA e)] [] (.c (.bool (seE e))) []
def cJ : Nat → List Nat
 | 0 => [0]
 | 1 => [0]
 | 2 => [0,3]
 | 3 => [0,3]
 | 4 => [0,3]
 | 5 => [0,3,4]
 | 6 => []
 | 7 => []
 | _ => []
set_option maxRecDepth 100000 in
set_option maxHeartbeats 4000000 in
theorem pR (l : List PE) (hl : Lg l) (h : ∀ e ∈ l,jw e) : AFn Tryz.prog 184 [.sl (cl l) l.length .none] [] (.c (.bool (hI l))) [] := by
 unfold Lg at hl
 rw [qx]
 refine aM [] Tryz.func184 rfl Tryz.ntmps184 (Nat.le_of_ble_eq_true rfl) (Nat.le_of_ble_eq_true rfl) fun w0 G0 B0 Pr hB0 => ?_
 simp only [aW,aL,List.cons_append,List.nil_append]
 repeat' (first | (with_reducible refine hY _ ?_; clear hY Y) | ((with_reducible first | refine au rfl (ay fun K' hK' => aa ?_) | refine hK' _ (ab fun Y hY => aa ?_) | refine ac tk0 cJ (ab fun Y hY => aa ?_)); (try clear hK' K'); (try dsimp only [aop]); try simp only [go_sem,seval,cJ,Tryz.results184]) | (with_reducible first | refine ag ?_ | refine am ?_ | refine aq ?_ | refine aG fun K hK => ?_ | refine av ?_ | refine bR ?_) | (with_reducible refine hK _ ?_; clear hK K))
 refine bX (α := Nat) (fun k => [(0,.sl (cl l) l.length .none),(3,inA (k : Int))])
  (fun k => k ≤ l.length ∧ ∀ j (hj : j < l.length),j < k → seE l[j] = true) (fun k => l.length - k) 0 [0,3] ?_ ⟨Nat.zero_le _,fun j _ hj => absurd hj (Nat.not_lt_zero _)⟩ ?_
 ·simp only [go_sem,seval] <;> rfl
 rintro k ⟨hk,hall⟩ ih
 by_cases hlt : k < l.length
 ·have hlt' : ((k : Int) < (l.length : Int)) = True := eq_true (by omega)
  have hkw := dp (n := k) (by omega)
  have hg0 := lj hlt
  have hfl := iH l
  have h1 := h l[k] (List.getElem_mem hlt)
  unfold jw at h1
  have hno : seE l[k] = false → l.all seE = false := fun e => by
   rw [List.all_eq_false]
   exact ⟨l[k],List.getElem_mem hlt,by rw [e]; simp⟩
  have hnx : seE l[k] = true → ∀ j (hj : j < l.length),j < k + 1 → seE l[j] = true := fun e j hj hjk => by
   by_cases hj2 : j < k
   ·exact hall j hj hj2
   ·have : j = k := by omega
    subst this; exact e
  generalize hp : seE l[k] = b at *
  generalize l[k] = t at *
  obtain ⟨tk,tn,tx,ts⟩ := t
  simp only [peA] at hg0 h1
  cases b with
  | false =>
   rw [hno rfl]
   clear ih hnx hall h
   repeat' (first | (with_reducible refine hY _ ?_; clear hY Y) | ((with_reducible first | refine au rfl (ay fun K' hK' => aa ?_) | refine hK' _ (ab fun Y hY => aa ?_) | refine ab fun Y hY => aa ?_ | refine ac tk0 cJ (ab fun Y hY => aa ?_) | refine aa ?_ | refine ax ?_); (try clear hK' K'); (try dsimp only [aop]); try simp only [go_sem,seval,cJ,Tryz.results184,hlt',hfl,hg0,hkw]) | (with_reducible first | refine ag ?_ | refine am ?_ | refine aq ?_ | refine aG fun K hK => ?_ | refine az ?_ | refine bh ?_ | refine bp ?_ | refine av ?_ | refine aH ?_ | refine aB ?_) | (with_reducible refine hK _ ?_; clear hK K) | ((with_reducible refine ai ?_ ?_); (· decide)) | (with_reducible refine bm ?_ ?_; (· (try and_intros) <;> first | omega | assumption | (simp only [List.length_append,List.length_map,List.length_cons,List.length_nil] <;> omega))) | (with_reducible refine ae (h1) ?_))
  | true =>
   clear hno
   repeat' (first | (with_reducible refine hY _ ?_; clear hY Y) | ((with_reducible first | refine au rfl (ay fun K' hK' => aa ?_) | refine hK' _ (ab fun Y hY => aa ?_) | refine ab fun Y hY => aa ?_ | refine ac tk0 cJ (ab fun Y hY => aa ?_) | refine aa ?_); (try clear hK' K'); (try dsimp only [aop]); try simp only [go_sem,seval,cJ,Tryz.results184,hlt',hfl,hg0,hkw]) | (with_reducible first | refine ag ?_ | refine am ?_ | refine aq ?_ | refine aG fun K hK => ?_ | refine az ?_ | refine aA ?_ | refine ba ?_ | refine av ?_ | refine aH ?_) | (with_reducible refine hK _ ?_; clear hK K) | ((with_reducible refine ai ?_ ?_); (· decide)) | (with_reducible refine bm ?_ ?_; (· (try and_intros) <;> first | omega | assumption | (simp only [List.length_append,List.length_map,List.length_cons,List.length_nil] <;> omega))) | (with_reducible refine ae (h1) ?_))
   refine bg [0,3] (by simp only [go_sem,seval]; exact rfl) ?_
   exact ih (k + 1) ⟨by omega,hnx rfl⟩ (by omega)
 ·have hlt' : ((k : Int) < (l.length : Int)) = False := eq_false (by omega)
  have hR : l.all seE = true := by
   rw [List.all_eq_true]
   intro x hx
   obtain ⟨j,hj,rfl⟩ := List.getElem_of_mem hx
   exact hall j hj (by omega)
  rw [hR]
  clear ih hall h
  repeat' (first | (with_reducible refine hY _ ?_; clear hY Y) | ((with_reducible first | refine au rfl (ay fun K' hK' => aa ?_) | refine hK' _ (ab fun Y hY => aa ?_) | refine ab fun Y hY => aa ?_ | refine ac tk0 cJ (ab fun Y hY => aa ?_) | refine aa ?_ | refine ax ?_); (try clear hK' K'); (try dsimp only [aop]); try simp only [go_sem,seval,cJ,Tryz.results184,hlt']) | (with_reducible first | refine ag ?_ | refine am ?_ | refine aq ?_ | refine aG fun K hK => ?_ | refine aA ?_ | refine bY ?_ | refine bF ?_ | refine aB ?_ | refine bE ?_) | (with_reducible refine hK _ ?_; clear hK K) | ((with_reducible refine ai ?_ ?_); (· decide)))
def dZ : Nat → List Nat
 | 0 => [0]
 | 1 => [1]
 | 2 => [1,3]
 | 3 => [1,3,4]
 | 4 => [1,3,4,14]
 | 5 => [1,3]
 | 6 => [1,3,4,14]
 | 7 => [1]
 | 8 => [1,3,4,14]
 | 9 => [1,3,4,14]
 | 10 => [1]
 | 11 => [1,3,4,14]
 | 12 => [1,3]
 | 13 => [1,4]
 | _ => []
set_option maxRecDepth 100000 in
set_option maxHeartbeats 8000000 in
theorem yz (k n : Int) (x : Wd) (ks : List PE) (hx : Lg x) (h : AFn Tryz.prog 184 [.sl (cl ks) ks.length .none] [] (.c (.bool (hI ks))) []) : jw (.mk k n x ks) := by
 unfold jw
 rw [seE]
 have h1 := kx x (by unfold Lg at hx; omega)
 simp only [peA]
 generalize hI ks = p at *
 rcases (by omega : k = 0 ∨ k = 1 ∨ k = 2 ∨ k = 3 ∨ k = 4 ∨ (¬ k = 0 ∧ ¬ k = 1 ∧ ¬ k = 2 ∧ ¬ k = 3 ∧ ¬ k = 4)) with rfl | rfl | rfl | rfl | rfl | ⟨g0,g1,g2,g3,g4⟩
 case inr.inr.inr.inr.inr =>
  have hR : sy k n x ks.length = false := by simp [sy,g0,g1,g2,g3,g4]
  rw [hR]
  refine aM [] Tryz.func123 rfl Tryz.ntmps123 (Nat.le_of_ble_eq_true rfl) (Nat.le_of_ble_eq_true rfl) fun w0 G0 B0 Pr hB0 => ?_
  simp only [aW,aL,List.cons_append,List.nil_append]
  repeat' (first | (with_reducible refine hY _ ?_; clear hY Y) | ((with_reducible first | refine au rfl (ay fun K' hK' => aa ?_) | refine hK' _ (ab fun Y hY => aa ?_) | refine bf rfl (ab fun Y hY => aa ?_) | refine ab fun Y hY => aa ?_ | refine ay fun K' hK' => aa ?_ | refine ac tk0 dZ (ab fun Y hY => aa ?_) | refine aa ?_ | refine ax ?_); (try clear hK' K'); (try dsimp only [aop]); try simp only [go_sem,seval,dZ,Tryz.results123,g0,g1,g2,g3,g4]) | (with_reducible first | refine ag ?_ | refine aU rfl ?_ | refine aK ?_ | refine cN ?_ ?_ | refine am ?_ | refine aq ?_ | refine aG fun K hK => ?_ | refine aA ?_ | refine ba ?_ | refine av ?_ | refine aH ?_ | refine aB ?_) | (with_reducible refine hK _ ?_; clear hK K) | ((with_reducible first | refine aJ ?_ ?_ | refine ai ?_ ?_); (· decide)) | ((with_reducible refine bP (fun hc => ?_) (fun hc => ?_)) <;> (try simp only [decide_eq_true_eq,decide_eq_false_iff_not,Bool.not_true,Bool.not_false,Bool.not_eq_true',Bool.not_eq_false'] at hc) <;> (try (exfalso; omega))))
  all_goals rfl
 all_goals simp only [sy,iC,reduceCtorEq,Int.reduceEq,if_true,if_false,or_false,false_or,true_or,or_true]
 all_goals generalize dM x = b at *
 all_goals
  refine aM [] Tryz.func123 rfl Tryz.ntmps123 (Nat.le_of_ble_eq_true rfl) (Nat.le_of_ble_eq_true rfl) fun w0 G0 B0 Pr hB0 => ?_
  simp only [aW,aL,List.cons_append,List.nil_append]
 all_goals
  repeat' (first | (with_reducible refine hY _ ?_; clear hY Y) | ((with_reducible first | refine au rfl (ay fun K' hK' => aa ?_) | refine hK' _ (ab fun Y hY => aa ?_) | refine bf rfl (ab fun Y hY => aa ?_) | refine ab fun Y hY => aa ?_ | refine ay fun K' hK' => aa ?_ | refine ac tk0 dZ (ab fun Y hY => aa ?_) | refine aa ?_ | refine ax ?_); (try clear hK' K'); (try dsimp only [aop]); try simp only [go_sem,seval,dZ,Tryz.results123]) | (with_reducible first | refine ag ?_ | refine aU rfl ?_ | refine aK ?_ | refine cN ?_ ?_ | refine am ?_ | refine aq ?_ | refine aG fun K hK => ?_ | refine az ?_ | refine aA ?_ | refine ba ?_ | refine av ?_ | refine aH ?_ | refine aB ?_) | (with_reducible refine hK _ ?_; clear hK K) | ((with_reducible first | refine aJ ?_ ?_ | refine ai ?_ ?_); (· decide)) | ((with_reducible refine bP (fun hc => ?_) (fun hc => ?_)) <;> (try simp only [decide_eq_true_eq,decide_eq_false_iff_not,Bool.not_true,Bool.not_false,Bool.not_eq_true',Bool.not_eq_false'] at hc) <;> (try (exfalso; omega))) | (with_reducible refine ae (h) ?_) | (with_reducible refine ae (h1) ?_) | (with_reducible refine bv (bW _) ?_))
 all_goals (clear h h1; cases x <;> simp_all <;> omega)
mutual
theorem kR : ∀ e,OkE e → jw e
 | .mk k n x ks,h => yz k n x ks h.2.2.1 (pR ks h.2.2.2.1 (me ks h.2.2.2.2))
theorem me : ∀ l,ir l → ∀ e ∈ l,jw e
 | [],_ => fun e he => absurd he List.not_mem_nil
 | a :: l,h => fD (kR a h.1) (me l h.2)
end
theorem oa (l : List PE) (hl : Lg l) (h : ir l) : AFn Tryz.prog 184 [.sl (cl l) l.length .none] [] (.c (.bool (hI l))) [] := pR l hl (me l h)
end Go.Proofs.YtkjnkkmokojnpaaGreatDoor
