/- Which conditions can be shown, in K. -/
import Derived.Test.YtkjnkkmokojnpaaGreatDoorZ26
import Derived.Test.YtkjnkkmokojnpaaGreatDoorZ4
namespace Go.Proofs.YtkjnkkmokojnpaaGreatDoor
set_option linter.unusedSimpArgs false
set_option linter.unusedVariables false
open Go.RowKit
abbrev jF (e : PC) : Prop:=AFn Tryz.prog 109 [.agg (bR e)] [] (.c (.bool (seC e))) []
def im : Nat→List Nat
 | 0=>[0]
 | 1=>[1]
 | _=>[]
set_option maxRecDepth 100000 in
theorem Bj (e : PC) (h : jF e) : AFn Tryz.prog 182 [.agg (bR e)] [] (.c (.bool (!seC e))) []:=by
 unfold jF at h
 generalize seC e = p at *
 obtain ⟨k,es,ks⟩:=e
 simp only [bR] at h ⊢
 refine aC [] Tryz.func182 rfl Tryz.ntmps182 (Nat.le_of_ble_eq_true rfl) (Nat.le_of_ble_eq_true rfl) fun w0 G0 B0 Pr hB0=>?_
 simp only [aJ,aB,List.cons_append,List.nil_append]
 repeat' (first | (with_reducible refine hY _ ?_;clear hY Y) | ((with_reducible first | refine ar rfl (ay fun K' hK'=>aa ?_) | refine hK' _ (ab fun Y hY=>aa ?_) | refine ae tk0 im (ab fun Y hY=>aa ?_) | refine aa ?_ | refine aq ?_);(try clear hK' K');(try dsimp only [aop]);try simp only [go_sem,seval,im,Tryz.results182]) | (with_reducible first | refine ag ?_ | refine aj ?_ | refine am ?_ | refine aF fun K hK=>?_ | refine aA ?_) | (with_reducible refine hK _ ?_;clear hK K) | (with_reducible refine ac (h) ?_))
def fI : Nat→List Nat
 | 0=>[0]
 | 1=>[1]
 | 2=>[1,3,4]
 | 3=>[]
 | 4=>[1,3,4,6]
 | 5=>[1,3,4,6]
 | 6=>[1,3,4,6]
 | 7=>[1,3,4,6]
 | 8=>[1,3,4,6]
 | 9=>[1,3,4,6]
 | 10=>[1,4]
 | 11=>[1,3,6]
 | 12=>[1,3]
 | 13=>[1,3,6]
 | 14=>[1,3,6]
 | 15=>[1,3]
 | 16=>[1,3,4]
 | _=>[]
set_option maxRecDepth 100000 in
set_option maxHeartbeats 8000000 in
theorem tj (k : Int) (es : List PE) (ks : List PC) (hes : Lg es) (heo : jY es) (hks : Lg ks) (h : ∀ e ∈ ks,jF e) : jF (.mk k es ks):=by
 unfold jF
 rw [seC]
 have h1:=qC es hes heo
 have h2:=Bz ks 182 (fun x=>!seC x) rfl hks fun y hy=>Bj y (h y hy)
 have h3 : (!ks.any fun x=>!seC x) = lO ks:=by rw [ni,od]
 simp only [bR]
 rw [← h3]
 generalize (ks.any fun x=>!seC x) = q at *
 generalize gV es = p at *
 clear h h3
 rcases (by omega : k = 0∨k = 1∨k = 2∨k = 3∨k = 4∨k = 5∨k = 6∨k = 7∨k = 8∨(¬ k = 0∧¬ k = 1∧¬ k = 2∧¬ k = 3∧¬ k = 4∧¬ k = 5∧¬ k = 6∧¬ k = 7∧¬ k = 8)) with rfl | rfl | rfl | rfl | rfl | rfl | rfl | rfl | rfl | ⟨g0,g1,g2,g3,g4,g5,g6,g7,g8⟩
 case inr.inr.inr.inr.inr.inr.inr.inr.inr =>
  have hR : jC k es.length ks.length = false:=by simp [jC,g0,g1,g2,g3,g4,g5,g6,g7,g8]
  rw [hR]
  refine aC [] Tryz.func109 rfl Tryz.ntmps109 (Nat.le_of_ble_eq_true rfl) (Nat.le_of_ble_eq_true rfl) fun w0 G0 B0 Pr hB0=>?_
  simp only [aJ,aB,List.cons_append,List.nil_append]
  repeat' (first | (with_reducible refine hY _ ?_;clear hY Y) | ((with_reducible first | refine ar rfl (ay fun K' hK'=>aa ?_) | refine hK' _ (ab fun Y hY=>aa ?_) | refine ab fun Y hY=>aa ?_ | refine ae tk0 fI (ab fun Y hY=>aa ?_) | refine aa ?_ | refine aq ?_);(try clear hK' K');(try dsimp only [aop]);try simp only [go_sem,seval,fI,Tryz.results109,g0,g1,g2,g3,g4,g5,g6,g7,g8]) | (with_reducible first | refine ag ?_ | refine aj ?_ | refine am ?_ | refine aF fun K hK=>?_ | refine av ?_ | refine aZ ?_ | refine bh ?_ | refine ap ?_ | refine aA ?_) | (with_reducible refine hK _ ?_;clear hK K) | ((with_reducible refine ai ?_ ?_);(· decide)))
  all_goals rfl
 all_goals simp only [jC,reduceCtorEq,Int.reduceEq,if_true,if_false,or_false,false_or,true_or,or_true]
 all_goals
  refine aC [] Tryz.func109 rfl Tryz.ntmps109 (Nat.le_of_ble_eq_true rfl) (Nat.le_of_ble_eq_true rfl) fun w0 G0 B0 Pr hB0=>?_
  simp only [aJ,aB,List.cons_append,List.nil_append]
 all_goals
  repeat' (first | (with_reducible refine hY _ ?_;clear hY Y) | ((with_reducible first | refine ar rfl (ay fun K' hK'=>aa ?_) | refine hK' _ (ab fun Y hY=>aa ?_) | refine ba rfl (ab fun Y hY=>aa ?_) | refine ab fun Y hY=>aa ?_ | refine ay fun K' hK'=>aa ?_ | refine ae tk0 fI (ab fun Y hY=>aa ?_) | refine aa ?_ | refine aq ?_);(try clear hK' K');(try dsimp only [aop]);try simp only [go_sem,seval,fI,Tryz.results109]) | (with_reducible first | refine ag ?_ | refine aW rfl ?_ | refine aK ?_ | refine dc ?_ ?_ | refine aj ?_ | refine am ?_ | refine aF fun K hK=>?_ | refine ax ?_ | refine av ?_ | refine aR ?_ | refine ap ?_ | refine aD ?_ | refine aA ?_) | (with_reducible refine hK _ ?_;clear hK K) | ((with_reducible first | refine aI ?_ ?_ | refine ai ?_ ?_);(· decide)) | ((with_reducible refine ci (fun hc=>?_) (fun hc=>?_)) <;> (try simp only [decide_eq_true_eq,decide_eq_false_iff_not,Bool.not_true,Bool.not_false,Bool.not_eq_true',Bool.not_eq_false'] at hc) <;> (try (exfalso;omega))) | (with_reducible refine ac (h1) ?_) | (with_reducible refine ac (h2) ?_))
 all_goals (clear h1 h2;simp_all <;> omega)
mutual
theorem jT : ∀ e,OkC e→jF e
 | .mk k es ks,h=>tj k es ks h.2.1.1 h.2.1.2 h.2.2.1 (uv ks h.2.2.2)
theorem uv : ∀ l,rO l→∀ e ∈ l,jF e
 | [],_=>fun e he=>absurd he List.not_mem_nil
 | a :: l,h=>gg (jT a h.1) (uv l h.2)
end
abbrev jE (e : PC) : Prop:=AFn Tryz.prog 124 [.agg (bR e)] [] (.c (.bool (seC e))) []
def bT : Nat→List Nat
 | 0=>[0]
 | 1=>[1]
 | 2=>[1,3]
 | 3=>[1,3,6]
 | 4=>[1,3,6]
 | 5=>[1]
 | 6=>[1,3,6]
 | 7=>[1,3,6]
 | 8=>[1,3,6]
 | 9=>[1,3,6]
 | 10=>[1]
 | 11=>[1,3,6]
 | 12=>[1]
 | 13=>[1,3,6]
 | 14=>[1,3,6]
 | 15=>[1]
 | 16=>[1,3]
 | 17=>[1,3,4]
 | 18=>[1,3,4]
 | 19=>[1,4]
 | 20=>[1,3]
 | _=>[]
set_option maxRecDepth 100000 in
set_option maxHeartbeats 8000000 in
theorem yV (k : Int) (es : List PE) (ks : List PC) (hes : Lg es) (heo : jY es) (hks : Lg ks) (h : ∀ e ∈ ks,jE e) : jE (.mk k es ks):=by
 unfold jE
 rw [seC]
 have h1:=oB es hes heo
 unfold Lg at hks
 simp only [bR]
 generalize gV es = p at *
 obtain ⟨R,hR⟩ : ∃ R,R = (jC k es.length ks.length && (p && lO ks)):=⟨_,rfl⟩
 rw [← hR]
 refine aC [] Tryz.func124 rfl Tryz.ntmps124 (Nat.le_of_ble_eq_true rfl) (Nat.le_of_ble_eq_true rfl) fun w0 G0 B0 Pr hB0=>?_
 simp only [aJ,aB,List.cons_append,List.nil_append]
 apply wH (α:=Bool × Int) (fun b=>[(1,.loc 10001 0),(3,.c (.bool b.1)),(4,inA 0),(10001,.bc [inA b.2,.sl (bY es) es.length .none,.sl (db ks) ks.length .none] 51)]) (fun b=>b.2 = k∧b.1 = jC k es.length ks.length)
 case use =>
  intro key
  rcases (by omega : k = 0∨k = 1∨k = 2∨k = 3∨k = 4∨k = 5∨k = 6∨k = 7∨k = 8∨(¬ k = 0∧¬ k = 1∧¬ k = 2∧¬ k = 3∧¬ k = 4∧¬ k = 5∧¬ k = 6∧¬ k = 7∧¬ k = 8)) with rfl | rfl | rfl | rfl | rfl | rfl | rfl | rfl | rfl | ⟨g0,g1,g2,g3,g4,g5,g6,g7,g8⟩
  case inr.inr.inr.inr.inr.inr.inr.inr.inr =>
   repeat' (first | (with_reducible refine hY _ ?_;clear hY Y) | ((with_reducible first | refine ar rfl (ay fun K' hK'=>aa ?_) | refine hK' _ (ab fun Y hY=>aa ?_) | refine ab fun Y hY=>aa ?_ | refine ae tk0 bT (ab fun Y hY=>aa ?_));(try clear hK' K');(try dsimp only [aop]);try simp only [go_sem,seval,bT,Tryz.results124,g0,g1,g2,g3,g4,g5,g6,g7,g8]) | (with_reducible first | refine ag ?_ | refine aj ?_ | refine am ?_ | refine aF fun K hK=>?_ | refine av ?_ | refine aR ?_ | refine ap ?_ | refine aD ?_ | refine bW ?_) | (with_reducible refine hK _ ?_;clear hK K) | ((with_reducible refine ai ?_ ?_);(· decide)))
   refine bi [1,3,4] (by simp only [go_sem,seval];exact rfl) ?_
   refine dd (key (jC k es.length ks.length,k) ⟨rfl,rfl⟩) ?_
   simp [jC,g0,g1,g2,g3,g4,g5,g6,g7,g8]
  all_goals
   repeat' (first | (with_reducible refine hY _ ?_;clear hY Y) | ((with_reducible first | refine ar rfl (ay fun K' hK'=>aa ?_) | refine hK' _ (ab fun Y hY=>aa ?_) | refine ba rfl (ab fun Y hY=>aa ?_) | refine ab fun Y hY=>aa ?_ | refine ay fun K' hK'=>aa ?_ | refine ae tk0 bT (ab fun Y hY=>aa ?_) | refine aa ?_);(try clear hK' K');(try dsimp only [aop]);try simp only [go_sem,seval,bT,Tryz.results124]) | (with_reducible first | refine ag ?_ | refine aW rfl ?_ | refine aK ?_ | refine dc ?_ ?_ | refine aj ?_ | refine am ?_ | refine aF fun K hK=>?_ | refine ax ?_ | refine av ?_ | refine aR ?_ | refine ap ?_ | refine aD ?_ | refine bW ?_) | (with_reducible refine hK _ ?_;clear hK K) | ((with_reducible first | refine aI ?_ ?_ | refine ai ?_ ?_);(· decide)) | ((with_reducible refine ci (fun hc=>?_) (fun hc=>?_)) <;> (try simp only [decide_eq_true_eq,decide_eq_false_iff_not,Bool.not_true,Bool.not_false,Bool.not_eq_true',Bool.not_eq_false'] at hc) <;> (try (exfalso;omega))))
  all_goals refine bi [1,3,4] (by simp only [go_sem,seval];exact rfl) ?_
  all_goals first | refine dd (key (jC 0 es.length ks.length,0) ⟨rfl,rfl⟩) ?_ | refine dd (key (jC 1 es.length ks.length,1) ⟨rfl,rfl⟩) ?_ | refine dd (key (jC 2 es.length ks.length,2) ⟨rfl,rfl⟩) ?_ | refine dd (key (jC 3 es.length ks.length,3) ⟨rfl,rfl⟩) ?_ | refine dd (key (jC 4 es.length ks.length,4) ⟨rfl,rfl⟩) ?_ | refine dd (key (jC 5 es.length ks.length,5) ⟨rfl,rfl⟩) ?_ | refine dd (key (jC 6 es.length ks.length,6) ⟨rfl,rfl⟩) ?_ | refine dd (key (jC 7 es.length ks.length,7) ⟨rfl,rfl⟩) ?_ | refine dd (key (jC 8 es.length ks.length,8) ⟨rfl,rfl⟩) ?_
  all_goals simp only [List.cons.injEq,Prod.mk.injEq,AV.c.injEq,Value.bool.injEq,true_and,and_true]
  all_goals rw [Bool.eq_iff_iff]
  all_goals simp only [jC,reduceCtorEq,Int.reduceEq,if_true,if_false,or_false,false_or,true_or,or_true,Bool.and_eq_true,decide_eq_true_eq,Bool.false_eq_true,false_iff,true_iff,iff_true,iff_false,not_and]
  all_goals omega
 case key =>
  rintro ⟨ok0,k'⟩ ⟨hk',hok0⟩
  simp only at hk' hok0 ⊢
  subst hk'
  rw [← hok0] at hR
  rw [hR]
  clear hok0 hR
  refine b9 (α:=Nat × Bool) (fun q=>[(1,.loc 10001 0),(3,.c (.bool q.2)),(4,inA (q.1 : Int)),(10001,.bc [inA k',.sl (bY es) es.length .none,.sl (db ks) ks.length .none] 51)])
   (fun q=>q.1≤ks.length∧(q.2 = true→ok0 = true∧∀ j (hj : j < ks.length),j < q.1→seC ks[j] = true)∧(q.2 = false→(ok0 && (p && lO ks)) = false)) (fun q=>ks.length - q.1) (0,ok0) [1,3,4] ?_
   ⟨Nat.zero_le _,fun h=>⟨h,fun j _ hj=>absurd hj (Nat.not_lt_zero _)⟩,fun h=>by simp only at h;rw [h];rfl⟩ ?_
  ·simp only [go_sem,seval] <;> rfl
  rintro ⟨i,ok⟩ ⟨hi,ht,hf⟩ ih
  simp only at hi ht hf ih ⊢
  by_cases hlt : i < ks.length
  case neg =>
   have hlt' : ((i : Int) < (ks.length : Int)) = False:=eq_false (by omega)
   have hfin : ok = true→(ok0 && (p && lO ks)) = p:=fun e=>by
    obtain ⟨a1,a2⟩:=ht e
    have : lO ks = true:=by
     rw [od,List.all_eq_true]
     intro x hx
     obtain ⟨j,hj,rfl⟩:=List.getElem_of_mem hx
     exact a2 j hj (by omega)
    rw [a1,this];simp
   clear ih h ht
   cases ok with
   | true =>
    rw [hfin rfl]
    repeat' (first | (with_reducible refine hY _ ?_;clear hY Y) | ((with_reducible first | refine ar rfl (ay fun K' hK'=>aa ?_) | refine hK' _ (ab fun Y hY=>aa ?_) | refine ba rfl (ab fun Y hY=>aa ?_) | refine ab fun Y hY=>aa ?_ | refine ay fun K' hK'=>aa ?_ | refine ae tk0 bT (ab fun Y hY=>aa ?_) | refine aa ?_ | refine aq ?_);(try clear hK' K');(try dsimp only [aop]);try simp only [go_sem,seval,bT,Tryz.results124,hlt']) | (with_reducible first | refine ag ?_ | refine aW rfl ?_ | refine aK ?_ | refine dc ?_ ?_ | refine aj ?_ | refine am ?_ | refine aF fun K hK=>?_ | refine av ?_ | refine cf ?_ | refine bI ?_ | refine aA ?_ | refine bH ?_) | (with_reducible refine hK _ ?_;clear hK K) | ((with_reducible first | refine aI ?_ ?_ | refine ai ?_ ?_);(· decide)) | (with_reducible refine ac (h1) ?_))
   | false =>
    rw [hf rfl]
    repeat' (first | (with_reducible refine hY _ ?_;clear hY Y) | ((with_reducible first | refine ar rfl (ay fun K' hK'=>aa ?_) | refine hK' _ (ab fun Y hY=>aa ?_) | refine ba rfl (ab fun Y hY=>aa ?_) | refine ab fun Y hY=>aa ?_ | refine ae tk0 bT (ab fun Y hY=>aa ?_) | refine aa ?_ | refine aq ?_);(try clear hK' K');(try dsimp only [aop]);try simp only [go_sem,seval,bT,Tryz.results124,hlt']) | (with_reducible first | refine ag ?_ | refine aW rfl ?_ | refine dc ?_ ?_ | refine aj ?_ | refine am ?_ | refine aF fun K hK=>?_ | refine av ?_ | refine cf ?_ | refine bI ?_ | refine aA ?_ | refine bH ?_) | (with_reducible refine hK _ ?_;clear hK K) | ((with_reducible first | refine aI ?_ ?_ | refine ai ?_ ?_);(· decide)))
  have hlt' : ((i : Int) < (ks.length : Int)) = True:=eq_true (by omega)
  cases ok with
  | false =>
   rw [hf rfl]
   clear ih h ht hf
   repeat' (first | (with_reducible refine hY _ ?_;clear hY Y) | ((with_reducible first | refine ar rfl (ay fun K' hK'=>aa ?_) | refine hK' _ (ab fun Y hY=>aa ?_) | refine ba rfl (ab fun Y hY=>aa ?_) | refine ab fun Y hY=>aa ?_ | refine ay fun K' hK'=>aa ?_ | refine ae tk0 bT (ab fun Y hY=>aa ?_) | refine aa ?_ | refine aq ?_);(try clear hK' K');(try dsimp only [aop]);try simp only [go_sem,seval,bT,Tryz.results124,hlt']) | (with_reducible first | refine ag ?_ | refine aW rfl ?_ | refine aK ?_ | refine dc ?_ ?_ | refine aj ?_ | refine am ?_ | refine aF fun K hK=>?_ | refine av ?_ | refine cf ?_ | refine bI ?_ | refine aA ?_ | refine bH ?_) | (with_reducible refine hK _ ?_;clear hK K) | ((with_reducible first | refine aI ?_ ?_ | refine ai ?_ ?_);(· decide)))
  | true =>
   obtain ⟨a1,a2⟩:=ht rfl
   clear hf ht
   have hkw:=eB (n:=i) (by omega)
   have hg0:=pP hlt
   have hfl:=lL ks
   have h2:=h ks[i] (List.getElem_mem hlt)
   unfold jE at h2
   have hno : seC ks[i] = false→(ok0 && (p && lO ks)) = false:=fun e=>by
    have : lO ks = false:=by
     rw [od,List.all_eq_false]
     exact ⟨ks[i],List.getElem_mem hlt,by rw [e];simp⟩
    rw [this];simp
   have hnx : seC ks[i] = true→∀ j (hj : j < ks.length),j < i + 1→seC ks[j] = true:=fun e j hj hjk=>by
    by_cases hj2 : j < i
    ·exact a2 j hj hj2
    ·have : j = i:=by omega
     subst this;exact e
   generalize hp : seC ks[i] = b at *
   generalize ks[i] = t at *
   obtain ⟨tk,te,ts⟩:=t
   simp only [bR] at hg0 h2
   clear h a2 h1
   repeat' (first | (with_reducible refine hY _ ?_;clear hY Y) | ((with_reducible first | refine ar rfl (ay fun K' hK'=>aa ?_) | refine hK' _ (ab fun Y hY=>aa ?_) | refine ba rfl (ab fun Y hY=>aa ?_) | refine ab fun Y hY=>aa ?_ | refine ay fun K' hK'=>aa ?_ | refine ae tk0 bT (ab fun Y hY=>aa ?_) | refine aa ?_);(try clear hK' K');(try dsimp only [aop]);try simp only [go_sem,seval,bT,Tryz.results124,hlt',hfl,hg0,hkw]) | (with_reducible first | refine ag ?_ | refine aK ?_ | refine aj ?_ | refine am ?_ | refine aF fun K hK=>?_ | refine ax ?_ | refine aR ?_ | refine ap ?_ | refine aD ?_) | (with_reducible refine hK _ ?_;clear hK K) | ((with_reducible first | refine aI ?_ ?_ | refine ai ?_ ?_);(· decide)) | (with_reducible refine br ?_ ?_;(· (try and_intros) <;> first | omega | assumption | (simp only [List.length_append,List.length_map,List.length_cons,List.length_nil] <;> omega))) | (with_reducible refine ac (h2) ?_))
   refine bi [1,3,4] (by simp only [go_sem,seval];exact rfl) ?_
   exact ih (i + 1,b) ⟨by omega,fun e=>⟨a1,hnx e⟩,fun e=>hno e⟩ (by show ks.length - (i + 1) < ks.length - i;omega)
mutual
theorem qs : ∀ e,OkC e→jE e
 | .mk k es ks,h=>yV k es ks h.2.1.1 h.2.1.2 h.2.2.1 (qr ks h.2.2.2)
theorem qr : ∀ l,rO l→∀ e ∈ l,jE e
 | [],_=>fun e he=>absurd he List.not_mem_nil
 | a :: l,h=>gg (qs a h.1) (qr l h.2)
end
end Go.Proofs.YtkjnkkmokojnpaaGreatDoor
