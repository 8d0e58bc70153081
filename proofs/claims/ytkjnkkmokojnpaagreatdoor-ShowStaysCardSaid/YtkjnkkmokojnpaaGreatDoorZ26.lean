/- Which expressions, conditions can be shown, in K. -/
import Derived.Test.YtkjnkkmokojnpaaGreatDoorZ25
namespace Go.Proofs.YtkjnkkmokojnpaaGreatDoor
set_option linter.unusedSimpArgs false
set_option linter.unusedVariables false
open Go.RowKit
theorem gg {α : Type} {P : α→Prop} {a : α} {l : List α} (h : P a) (k : ∀ e ∈ l,P e) : ∀ e ∈ a :: l,P e:=fun e he=>by
 rcases List.mem_cons.1 he with rfl | he
 ·exact h
 ·exact k e he
theorem rq : ∀ l : List PE,gV l = l.all seE
 | []=>rfl
 | e :: r=>by rw [gV,List.all_cons,rq r]
theorem od : ∀ l : List PC,lO l = l.all seC
 | []=>rfl
 | e :: r=>by rw [lO,List.all_cons,od r]
theorem oc : ∀ l : List PA,lN l = l.all seA
 | []=>rfl
 | e :: r=>by rw [lN,List.all_cons,oc r]
theorem oe : ∀ l : List PS',gW l = l.all seS
 | []=>rfl
 | e :: r=>by rw [gW,List.all_cons,oe r]
abbrev iu (e : PE) : Prop:=AFn Tryz.prog 111 [.agg (peA e)] [] (.c (.bool (seE e))) []
def hU : Nat→List Nat
 | 0=>[0]
 | 1=>[1]
 | _=>[]
set_option maxRecDepth 100000 in
theorem zw (e : PE) (h : iu e) : AFn Tryz.prog 214 [.agg (peA e)] [] (.c (.bool (!seE e))) []:=by
 unfold iu at h
 generalize seE e = p at *
 obtain ⟨k,n,x,ks⟩:=e
 simp only [peA] at h ⊢
 refine aC [] Tryz.func214 rfl Tryz.ntmps214 (Nat.le_of_ble_eq_true rfl) (Nat.le_of_ble_eq_true rfl) fun w0 G0 B0 Pr hB0=>?_
 simp only [aJ,aB,List.cons_append,List.nil_append]
 repeat' (first | (with_reducible refine hY _ ?_;clear hY Y) | ((with_reducible first | refine ar rfl (ay fun K' hK'=>aa ?_) | refine hK' _ (ab fun Y hY=>aa ?_) | refine ae tk0 hU (ab fun Y hY=>aa ?_) | refine aa ?_ | refine aq ?_);(try clear hK' K');(try dsimp only [aop]);try simp only [go_sem,seval,hU,Tryz.results214]) | (with_reducible first | refine ag ?_ | refine aj ?_ | refine am ?_ | refine aF fun K hK=>?_ | refine aA ?_) | (with_reducible refine hK _ ?_;clear hK K) | (with_reducible refine ac (h) ?_))
def iw : Nat→List Nat
 | 0=>[0]
 | 1=>[0]
 | _=>[]
set_option maxRecDepth 100000 in
theorem uG (l : List PE) (hl : Lg l) (h : ∀ e ∈ l,iu e) : AFn Tryz.prog 181 [.sl (bY l) l.length .none] [] (.c (.bool (gV l))) []:=by
 have h1:=BD l 214 (fun x=>!seE x) rfl hl fun y hy=>zw y (h y hy)
 have h2 : (!l.any fun x=>!seE x) = gV l:=by rw [ni,rq]
 refine aC [] Tryz.func181 rfl Tryz.ntmps181 (Nat.le_of_ble_eq_true rfl) (Nat.le_of_ble_eq_true rfl) fun w0 G0 B0 Pr hB0=>?_
 simp only [aJ,aB,List.cons_append,List.nil_append]
 repeat' (first | (with_reducible refine hY _ ?_;clear hY Y) | ((with_reducible first | refine ar rfl (ay fun K' hK'=>aa ?_) | refine hK' _ (ab fun Y hY=>aa ?_) | refine ae tk0 iw (ab fun Y hY=>aa ?_) | refine aa ?_ | refine aq ?_);(try clear hK' K');(try dsimp only [aop]);try simp only [go_sem,seval,iw,Tryz.results181,h2]) | (with_reducible first | refine ag ?_ | refine aj ?_ | refine am ?_ | refine aF fun K hK=>?_ | refine aA ?_) | (with_reducible refine hK _ ?_;clear hK K) | (with_reducible refine ac (h1) ?_))
def fJ : Nat→List Nat
 | 0=>[0]
 | 1=>[1]
 | 2=>[1,3]
 | 3=>[]
 | 4=>[1,3,13]
 | 5=>[1,3]
 | 6=>[1,3,13]
 | 7=>[1]
 | 8=>[1,3,13]
 | 9=>[1,3,13]
 | 10=>[1]
 | 11=>[1,3,13]
 | 12=>[1,3]
 | 13=>[1,3]
 | _=>[]
set_option maxRecDepth 100000 in
set_option maxHeartbeats 8000000 in
theorem tt (k n : Int) (x : Wd) (ks : List PE) (hx : Lg x) (h : AFn Tryz.prog 181 [.sl (bY ks) ks.length .none] [] (.c (.bool (gV ks))) []) : iu (.mk k n x ks):=by
 unfold iu
 rw [seE]
 have h1:=ja x (by unfold Lg at hx;omega)
 simp only [peA]
 generalize gV ks = p at *
 rcases (by omega : k = 0∨k = 1∨k = 2∨k = 3∨k = 4∨(¬ k = 0∧¬ k = 1∧¬ k = 2∧¬ k = 3∧¬ k = 4)) with rfl | rfl | rfl | rfl | rfl | ⟨g0,g1,g2,g3,g4⟩
 case inr.inr.inr.inr.inr =>
  have hR : rU k n x ks.length = false:=by simp [rU,g0,g1,g2,g3,g4]
  rw [hR]
  refine aC [] Tryz.func111 rfl Tryz.ntmps111 (Nat.le_of_ble_eq_true rfl) (Nat.le_of_ble_eq_true rfl) fun w0 G0 B0 Pr hB0=>?_
  simp only [aJ,aB,List.cons_append,List.nil_append]
  repeat' (first | (with_reducible refine hY _ ?_;clear hY Y) | ((with_reducible first | refine ar rfl (ay fun K' hK'=>aa ?_) | refine hK' _ (ab fun Y hY=>aa ?_) | refine ba rfl (ab fun Y hY=>aa ?_) | refine ab fun Y hY=>aa ?_ | refine ay fun K' hK'=>aa ?_ | refine ae tk0 fJ (ab fun Y hY=>aa ?_) | refine aa ?_ | refine aq ?_);(try clear hK' K');(try dsimp only [aop]);try simp only [go_sem,seval,fJ,Tryz.results111,g0,g1,g2,g3,g4]) | (with_reducible first | refine ag ?_ | refine aW rfl ?_ | refine aK ?_ | refine dc ?_ ?_ | refine aj ?_ | refine am ?_ | refine aF fun K hK=>?_ | refine av ?_ | refine aZ ?_ | refine bh ?_ | refine ap ?_ | refine aA ?_) | (with_reducible refine hK _ ?_;clear hK K) | ((with_reducible first | refine aI ?_ ?_ | refine ai ?_ ?_);(· decide)) | ((with_reducible refine ci (fun hc=>?_) (fun hc=>?_)) <;> (try simp only [decide_eq_true_eq,decide_eq_false_iff_not,Bool.not_true,Bool.not_false,Bool.not_eq_true',Bool.not_eq_false'] at hc) <;> (try (exfalso;omega))))
  all_goals rfl
 all_goals simp only [rU,gK,reduceCtorEq,Int.reduceEq,if_true,if_false,or_false,false_or,true_or,or_true]
 all_goals generalize dQ x = b at *
 all_goals
  refine aC [] Tryz.func111 rfl Tryz.ntmps111 (Nat.le_of_ble_eq_true rfl) (Nat.le_of_ble_eq_true rfl) fun w0 G0 B0 Pr hB0=>?_
  simp only [aJ,aB,List.cons_append,List.nil_append]
 all_goals
  repeat' (first | (with_reducible refine hY _ ?_;clear hY Y) | ((with_reducible first | refine ar rfl (ay fun K' hK'=>aa ?_) | refine hK' _ (ab fun Y hY=>aa ?_) | refine ba rfl (ab fun Y hY=>aa ?_) | refine ab fun Y hY=>aa ?_ | refine ay fun K' hK'=>aa ?_ | refine ae tk0 fJ (ab fun Y hY=>aa ?_) | refine aa ?_ | refine aq ?_);(try clear hK' K');(try dsimp only [aop]);try simp only [go_sem,seval,fJ,Tryz.results111]) | (with_reducible first | refine ag ?_ | refine aW rfl ?_ | refine aK ?_ | refine dc ?_ ?_ | refine aj ?_ | refine am ?_ | refine aF fun K hK=>?_ | refine ax ?_ | refine av ?_ | refine aR ?_ | refine ap ?_ | refine aD ?_ | refine aA ?_) | (with_reducible refine hK _ ?_;clear hK K) | ((with_reducible first | refine aI ?_ ?_ | refine ai ?_ ?_);(· decide)) | ((with_reducible refine ci (fun hc=>?_) (fun hc=>?_)) <;> (try simp only [decide_eq_true_eq,decide_eq_false_iff_not,Bool.not_true,Bool.not_false,Bool.not_eq_true',Bool.not_eq_false'] at hc) <;> (try (exfalso;omega))) | (with_reducible refine ac (h) ?_) | (with_reducible refine ac (h1) ?_) | (with_reducible refine bg (bN _) ?_))
 all_goals (clear h h1;cases x <;> simp_all <;> omega)
mutual
theorem fL : ∀ e,OkE e→iu e
 | .mk k n x ks,h=>tt k n x ks h.2.2.1 (uG ks h.2.2.2.1 (qA ks h.2.2.2.2))
theorem qA : ∀ l,jY l→∀ e ∈ l,iu e
 | [],_=>fun e he=>absurd he List.not_mem_nil
 | a :: l,h=>gg (fL a h.1) (qA l h.2)
end
theorem qC (l : List PE) (hl : Lg l) (h : jY l) : AFn Tryz.prog 181 [.sl (bY l) l.length .none] [] (.c (.bool (gV l))) []:=uG l hl (qA l h)
abbrev jG (e : PE) : Prop:=AFn Tryz.prog 123 [.agg (peA e)] [] (.c (.bool (seE e))) []
def cL : Nat→List Nat
 | 0=>[0]
 | 1=>[0]
 | 2=>[0,3]
 | 3=>[0,3]
 | 4=>[0,3]
 | 5=>[0,3,4]
 | 6=>[]
 | 7=>[]
 | _=>[]
set_option maxRecDepth 100000 in
set_option maxHeartbeats 4000000 in
theorem qB (l : List PE) (hl : Lg l) (h : ∀ e ∈ l,jG e) : AFn Tryz.prog 184 [.sl (bY l) l.length .none] [] (.c (.bool (gV l))) []:=by
 unfold Lg at hl
 rw [rq]
 refine aC [] Tryz.func184 rfl Tryz.ntmps184 (Nat.le_of_ble_eq_true rfl) (Nat.le_of_ble_eq_true rfl) fun w0 G0 B0 Pr hB0=>?_
 simp only [aJ,aB,List.cons_append,List.nil_append]
 repeat' (first | (with_reducible refine hY _ ?_;clear hY Y) | ((with_reducible first | refine ar rfl (ay fun K' hK'=>aa ?_) | refine hK' _ (ab fun Y hY=>aa ?_) | refine ae tk0 cL (ab fun Y hY=>aa ?_));(try clear hK' K');(try dsimp only [aop]);try simp only [go_sem,seval,cL,Tryz.results184]) | (with_reducible first | refine ag ?_ | refine aj ?_ | refine am ?_ | refine aF fun K hK=>?_ | refine ap ?_ | refine bW ?_) | (with_reducible refine hK _ ?_;clear hK K))
 refine b9 (α:=Nat) (fun k=>[(0,.sl (bY l) l.length .none),(3,inA (k : Int))])
  (fun k=>k≤l.length∧∀ j (hj : j < l.length),j < k→seE l[j] = true) (fun k=>l.length - k) 0 [0,3] ?_ ⟨Nat.zero_le _,fun j _ hj=>absurd hj (Nat.not_lt_zero _)⟩ ?_
 ·simp only [go_sem,seval] <;> rfl
 rintro k ⟨hk,hall⟩ ih
 by_cases hlt : k < l.length
 ·have hlt' : ((k : Int) < (l.length : Int)) = True:=eq_true (by omega)
  have hkw:=eB (n:=k) (by omega)
  have hg0:=kQ hlt
  have hfl:=iK l
  have h1:=h l[k] (List.getElem_mem hlt)
  unfold jG at h1
  have hno : seE l[k] = false→l.all seE = false:=fun e=>by
   rw [List.all_eq_false]
   exact ⟨l[k],List.getElem_mem hlt,by rw [e];simp⟩
  have hnx : seE l[k] = true→∀ j (hj : j < l.length),j < k + 1→seE l[j] = true:=fun e j hj hjk=>by
   by_cases hj2 : j < k
   ·exact hall j hj hj2
   ·have : j = k:=by omega
    subst this;exact e
  generalize hp : seE l[k] = b at *
  generalize l[k] = t at *
  obtain ⟨tk,tn,tx,ts⟩:=t
  simp only [peA] at hg0 h1
  cases b with
  | false =>
   rw [hno rfl]
   clear ih hnx hall h
   repeat' (first | (with_reducible refine hY _ ?_;clear hY Y) | ((with_reducible first | refine ar rfl (ay fun K' hK'=>aa ?_) | refine hK' _ (ab fun Y hY=>aa ?_) | refine ab fun Y hY=>aa ?_ | refine ae tk0 cL (ab fun Y hY=>aa ?_) | refine aa ?_ | refine aq ?_);(try clear hK' K');(try dsimp only [aop]);try simp only [go_sem,seval,cL,Tryz.results184,hlt',hfl,hg0,hkw]) | (with_reducible first | refine ag ?_ | refine aj ?_ | refine am ?_ | refine aF fun K hK=>?_ | refine ax ?_ | refine aZ ?_ | refine bh ?_ | refine ap ?_ | refine aD ?_ | refine aA ?_) | (with_reducible refine hK _ ?_;clear hK K) | ((with_reducible refine ai ?_ ?_);(· decide)) | (with_reducible refine br ?_ ?_;(· (try and_intros) <;> first | omega | assumption | (simp only [List.length_append,List.length_map,List.length_cons,List.length_nil] <;> omega))) | (with_reducible refine ac (h1) ?_))
  | true =>
   clear hno
   repeat' (first | (with_reducible refine hY _ ?_;clear hY Y) | ((with_reducible first | refine ar rfl (ay fun K' hK'=>aa ?_) | refine hK' _ (ab fun Y hY=>aa ?_) | refine ab fun Y hY=>aa ?_ | refine ae tk0 cL (ab fun Y hY=>aa ?_) | refine aa ?_);(try clear hK' K');(try dsimp only [aop]);try simp only [go_sem,seval,cL,Tryz.results184,hlt',hfl,hg0,hkw]) | (with_reducible first | refine ag ?_ | refine aj ?_ | refine am ?_ | refine aF fun K hK=>?_ | refine ax ?_ | refine av ?_ | refine aR ?_ | refine ap ?_ | refine aD ?_) | (with_reducible refine hK _ ?_;clear hK K) | ((with_reducible refine ai ?_ ?_);(· decide)) | (with_reducible refine br ?_ ?_;(· (try and_intros) <;> first | omega | assumption | (simp only [List.length_append,List.length_map,List.length_cons,List.length_nil] <;> omega))) | (with_reducible refine ac (h1) ?_))
   refine bi [0,3] (by simp only [go_sem,seval];exact rfl) ?_
   exact ih (k + 1) ⟨by omega,hnx rfl⟩ (by omega)
 ·have hlt' : ((k : Int) < (l.length : Int)) = False:=eq_false (by omega)
  have hR : l.all seE = true:=by
   rw [List.all_eq_true]
   intro x hx
   obtain ⟨j,hj,rfl⟩:=List.getElem_of_mem hx
   exact hall j hj (by omega)
  rw [hR]
  clear ih hall h
  repeat' (first | (with_reducible refine hY _ ?_;clear hY Y) | ((with_reducible first | refine ar rfl (ay fun K' hK'=>aa ?_) | refine hK' _ (ab fun Y hY=>aa ?_) | refine ab fun Y hY=>aa ?_ | refine ae tk0 cL (ab fun Y hY=>aa ?_) | refine aa ?_ | refine aq ?_);(try clear hK' K');(try dsimp only [aop]);try simp only [go_sem,seval,cL,Tryz.results184,hlt']) | (with_reducible first | refine ag ?_ | refine aj ?_ | refine am ?_ | refine aF fun K hK=>?_ | refine av ?_ | refine cf ?_ | refine bI ?_ | refine aA ?_ | refine bH ?_) | (with_reducible refine hK _ ?_;clear hK K) | ((with_reducible refine ai ?_ ?_);(· decide)))
def eu : Nat→List Nat
 | 0=>[0]
 | 1=>[1]
 | 2=>[1,3]
 | 3=>[1,3,4]
 | 4=>[1,3,4,14]
 | 5=>[1,3]
 | 6=>[1,3,4,14]
 | 7=>[1]
 | 8=>[1,3,4,14]
 | 9=>[1,3,4,14]
 | 10=>[1]
 | 11=>[1,3,4,14]
 | 12=>[1,3]
 | 13=>[1,4]
 | _=>[]
set_option maxRecDepth 100000 in
set_option maxHeartbeats 8000000 in
theorem zu (k n : Int) (x : Wd) (ks : List PE) (hx : Lg x) (h : AFn Tryz.prog 184 [.sl (bY ks) ks.length .none] [] (.c (.bool (gV ks))) []) : jG (.mk k n x ks):=by
 unfold jG
 rw [seE]
 have h1:=kU x (by unfold Lg at hx;omega)
 simp only [peA]
 generalize gV ks = p at *
 rcases (by omega : k = 0∨k = 1∨k = 2∨k = 3∨k = 4∨(¬ k = 0∧¬ k = 1∧¬ k = 2∧¬ k = 3∧¬ k = 4)) with rfl | rfl | rfl | rfl | rfl | ⟨g0,g1,g2,g3,g4⟩
 case inr.inr.inr.inr.inr =>
  have hR : rU k n x ks.length = false:=by simp [rU,g0,g1,g2,g3,g4]
  rw [hR]
  refine aC [] Tryz.func123 rfl Tryz.ntmps123 (Nat.le_of_ble_eq_true rfl) (Nat.le_of_ble_eq_true rfl) fun w0 G0 B0 Pr hB0=>?_
  simp only [aJ,aB,List.cons_append,List.nil_append]
  repeat' (first | (with_reducible refine hY _ ?_;clear hY Y) | ((with_reducible first | refine ar rfl (ay fun K' hK'=>aa ?_) | refine hK' _ (ab fun Y hY=>aa ?_) | refine ba rfl (ab fun Y hY=>aa ?_) | refine ab fun Y hY=>aa ?_ | refine ay fun K' hK'=>aa ?_ | refine ae tk0 eu (ab fun Y hY=>aa ?_) | refine aa ?_ | refine aq ?_);(try clear hK' K');(try dsimp only [aop]);try simp only [go_sem,seval,eu,Tryz.results123,g0,g1,g2,g3,g4]) | (with_reducible first | refine ag ?_ | refine aW rfl ?_ | refine aK ?_ | refine dc ?_ ?_ | refine aj ?_ | refine am ?_ | refine aF fun K hK=>?_ | refine av ?_ | refine aR ?_ | refine ap ?_ | refine aD ?_ | refine aA ?_) | (with_reducible refine hK _ ?_;clear hK K) | ((with_reducible first | refine aI ?_ ?_ | refine ai ?_ ?_);(· decide)) | ((with_reducible refine ci (fun hc=>?_) (fun hc=>?_)) <;> (try simp only [decide_eq_true_eq,decide_eq_false_iff_not,Bool.not_true,Bool.not_false,Bool.not_eq_true',Bool.not_eq_false'] at hc) <;> (try (exfalso;omega))))
  all_goals rfl
 all_goals simp only [rU,gK,reduceCtorEq,Int.reduceEq,if_true,if_false,or_false,false_or,true_or,or_true]
 all_goals generalize dQ x = b at *
 all_goals
  refine aC [] Tryz.func123 rfl Tryz.ntmps123 (Nat.le_of_ble_eq_true rfl) (Nat.le_of_ble_eq_true rfl) fun w0 G0 B0 Pr hB0=>?_
  simp only [aJ,aB,List.cons_append,List.nil_append]
 all_goals
  repeat' (first | (with_reducible refine hY _ ?_;clear hY Y) | ((with_reducible first | refine ar rfl (ay fun K' hK'=>aa ?_) | refine hK' _ (ab fun Y hY=>aa ?_) | refine ba rfl (ab fun Y hY=>aa ?_) | refine ab fun Y hY=>aa ?_ | refine ay fun K' hK'=>aa ?_ | refine ae tk0 eu (ab fun Y hY=>aa ?_) | refine aa ?_ | refine aq ?_);(try clear hK' K');(try dsimp only [aop]);try simp only [go_sem,seval,eu,Tryz.results123]) | (with_reducible first | refine ag ?_ | refine aW rfl ?_ | refine aK ?_ | refine dc ?_ ?_ | refine aj ?_ | refine am ?_ | refine aF fun K hK=>?_ | refine ax ?_ | refine av ?_ | refine aR ?_ | refine ap ?_ | refine aD ?_ | refine aA ?_) | (with_reducible refine hK _ ?_;clear hK K) | ((with_reducible first | refine aI ?_ ?_ | refine ai ?_ ?_);(· decide)) | ((with_reducible refine ci (fun hc=>?_) (fun hc=>?_)) <;> (try simp only [decide_eq_true_eq,decide_eq_false_iff_not,Bool.not_true,Bool.not_false,Bool.not_eq_true',Bool.not_eq_false'] at hc) <;> (try (exfalso;omega))) | (with_reducible refine ac (h) ?_) | (with_reducible refine ac (h1) ?_) | (with_reducible refine bg (bN _) ?_))
 all_goals (clear h h1;cases x <;> simp_all <;> omega)
mutual
theorem lC : ∀ e,OkE e→jG e
 | .mk k n x ks,h=>zu k n x ks h.2.2.1 (qB ks h.2.2.2.1 (mG ks h.2.2.2.2))
theorem mG : ∀ l,jY l→∀ e ∈ l,jG e
 | [],_=>fun e he=>absurd he List.not_mem_nil
 | a :: l,h=>gg (lC a h.1) (mG l h.2)
end
theorem oB (l : List PE) (hl : Lg l) (h : jY l) : AFn Tryz.prog 184 [.sl (bY l) l.length .none] [] (.c (.bool (gV l))) []:=qB l hl (mG l h)
end Go.Proofs.YtkjnkkmokojnpaaGreatDoor
