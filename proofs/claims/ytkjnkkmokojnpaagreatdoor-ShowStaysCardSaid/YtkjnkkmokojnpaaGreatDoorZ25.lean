/- How deep statements are; what is not empty; in K. -/
import Derived.Test.YtkjnkkmokojnpaaGreatDoorZ9
import Derived.Test.YtkjnkkmokojnpaaGreatDoorZ23
namespace Go.Proofs.YtkjnkkmokojnpaaGreatDoor
set_option linter.unusedSimpArgs false
set_option linter.unusedVariables false
open Go.RowKit
def gu : Nat→List Nat
 | 0=>[0]
 | 1=>[1]
 | _=>[]
set_option maxRecDepth 100000 in
set_option maxHeartbeats 4000000 in
theorem kh (e : PE) : AFn Tryz.prog 122 [.agg (peA e)] [] (.c (.bool (dG e))) []:=by
 obtain ⟨k,n,x,ks⟩:=e
 simp only [peA]
 refine aC [] Tryz.func122 rfl Tryz.ntmps122 (Nat.le_of_ble_eq_true rfl) (Nat.le_of_ble_eq_true rfl) fun w0 G0 B0 Pr hB0=>?_
 simp only [aJ,aB,List.cons_append,List.nil_append]
 repeat' (first | (with_reducible refine hY _ ?_;clear hY Y) | ((with_reducible first | refine ar rfl (ay fun K' hK'=>aa ?_) | refine hK' _ (ab fun Y hY=>aa ?_) | refine ba rfl (ab fun Y hY=>aa ?_) | refine ab fun Y hY=>aa ?_ | refine ay fun K' hK'=>aa ?_ | refine ae tk0 gu (ab fun Y hY=>aa ?_) | refine aa ?_ | refine aq ?_);(try clear hK' K');(try dsimp only [aop]);try simp only [go_sem,seval,gu,Tryz.results122]) | (with_reducible first | refine ag ?_ | refine aW rfl ?_ | refine aK ?_ | refine dc ?_ ?_ | refine aj ?_ | refine am ?_ | refine aF fun K hK=>?_ | refine aA ?_) | (with_reducible refine hK _ ?_;clear hK K) | ((with_reducible refine aI ?_ ?_);(· decide)) | ((with_reducible refine ci (fun hc=>?_) (fun hc=>?_)) <;> (try simp only [decide_eq_true_eq,decide_eq_false_iff_not,Bool.not_true,Bool.not_false,Bool.not_eq_true',Bool.not_eq_false'] at hc) <;> (try (exfalso;omega))) | (with_reducible refine bg (bN _) ?_))
 all_goals (cases x <;> cases ks <;> simp_all [dG] <;> omega)
def iS : Nat→List Nat
 | 0=>[0]
 | 1=>[1]
 | _=>[]
set_option maxRecDepth 100000 in
set_option maxHeartbeats 4000000 in
theorem oE (e : PE) : AFn Tryz.prog 112 [.agg (peA e)] [] (.c (.bool (dG e))) []:=by
 obtain ⟨k,n,x,ks⟩:=e
 simp only [peA]
 refine aC [] Tryz.func112 rfl Tryz.ntmps112 (Nat.le_of_ble_eq_true rfl) (Nat.le_of_ble_eq_true rfl) fun w0 G0 B0 Pr hB0=>?_
 simp only [aJ,aB,List.cons_append,List.nil_append]
 repeat' (first | (with_reducible refine hY _ ?_;clear hY Y) | ((with_reducible first | refine ar rfl (ay fun K' hK'=>aa ?_) | refine hK' _ (ab fun Y hY=>aa ?_) | refine ba rfl (ab fun Y hY=>aa ?_) | refine ab fun Y hY=>aa ?_ | refine ay fun K' hK'=>aa ?_ | refine ae tk0 iS (ab fun Y hY=>aa ?_) | refine aa ?_ | refine aq ?_);(try clear hK' K');(try dsimp only [aop]);try simp only [go_sem,seval,iS,Tryz.results112]) | (with_reducible first | refine ag ?_ | refine aW rfl ?_ | refine aK ?_ | refine dc ?_ ?_ | refine aj ?_ | refine am ?_ | refine aF fun K hK=>?_ | refine aA ?_) | (with_reducible refine hK _ ?_;clear hK K) | ((with_reducible refine aI ?_ ?_);(· decide)) | ((with_reducible refine ci (fun hc=>?_) (fun hc=>?_)) <;> (try simp only [decide_eq_true_eq,decide_eq_false_iff_not,Bool.not_true,Bool.not_false,Bool.not_eq_true',Bool.not_eq_false'] at hc) <;> (try (exfalso;omega))) | (with_reducible refine bg (bN _) ?_))
 all_goals (cases x <;> cases ks <;> simp_all [dG] <;> omega)
def gt : Nat→List Nat
 | 0=>[0]
 | 1=>[1]
 | _=>[]
set_option maxRecDepth 100000 in
set_option maxHeartbeats 4000000 in
theorem qG (e : PC) : AFn Tryz.prog 121 [.agg (bR e)] [] (.c (.bool (fi e))) []:=by
 obtain ⟨k,es,ks⟩:=e
 simp only [bR]
 refine aC [] Tryz.func121 rfl Tryz.ntmps121 (Nat.le_of_ble_eq_true rfl) (Nat.le_of_ble_eq_true rfl) fun w0 G0 B0 Pr hB0=>?_
 simp only [aJ,aB,List.cons_append,List.nil_append]
 repeat' (first | (with_reducible refine hY _ ?_;clear hY Y) | ((with_reducible first | refine ar rfl (ay fun K' hK'=>aa ?_) | refine hK' _ (ab fun Y hY=>aa ?_) | refine ba rfl (ab fun Y hY=>aa ?_) | refine ab fun Y hY=>aa ?_ | refine ay fun K' hK'=>aa ?_ | refine ae tk0 gt (ab fun Y hY=>aa ?_) | refine aa ?_ | refine aq ?_);(try clear hK' K');(try dsimp only [aop]);try simp only [go_sem,seval,gt,Tryz.results121]) | (with_reducible first | refine ag ?_ | refine aW rfl ?_ | refine aK ?_ | refine dc ?_ ?_ | refine aj ?_ | refine am ?_ | refine aF fun K hK=>?_ | refine aA ?_) | (with_reducible refine hK _ ?_;clear hK K) | ((with_reducible refine aI ?_ ?_);(· decide)) | ((with_reducible refine ci (fun hc=>?_) (fun hc=>?_)) <;> (try simp only [decide_eq_true_eq,decide_eq_false_iff_not,Bool.not_true,Bool.not_false,Bool.not_eq_true',Bool.not_eq_false'] at hc) <;> (try (exfalso;omega))))
 all_goals (cases es <;> cases ks <;> simp_all [fi] <;> omega)
def iR : Nat→List Nat
 | 0=>[0]
 | 1=>[1]
 | _=>[]
set_option maxRecDepth 100000 in
set_option maxHeartbeats 4000000 in
theorem vZ (e : PC) (ho : OkC e) : AFn Tryz.prog 110 [.agg (bR e)] [] (.c (.bool (fi e))) []:=by
 obtain ⟨k,es,ks⟩:=e
 obtain ⟨_,⟨h1,_⟩,h2,_⟩:=ho
 unfold Lg at h1 h2
 have hw : IntKind.i64.wrap ((es.length : Int) + (ks.length : Int)) = ((es.length + ks.length : Nat) : Int):=by rw [bZ (by omega) (by omega)];omega
 simp only [bR]
 refine aC [] Tryz.func110 rfl Tryz.ntmps110 (Nat.le_of_ble_eq_true rfl) (Nat.le_of_ble_eq_true rfl) fun w0 G0 B0 Pr hB0=>?_
 simp only [aJ,aB,List.cons_append,List.nil_append]
 repeat' (first | (with_reducible refine hY _ ?_;clear hY Y) | ((with_reducible first | refine ar rfl (ay fun K' hK'=>aa ?_) | refine hK' _ (ab fun Y hY=>aa ?_) | refine ba rfl (ab fun Y hY=>aa ?_) | refine ab fun Y hY=>aa ?_ | refine ay fun K' hK'=>aa ?_ | refine ae tk0 iR (ab fun Y hY=>aa ?_) | refine aa ?_ | refine aq ?_);(try clear hK' K');(try dsimp only [aop]);try simp only [go_sem,seval,iR,Tryz.results110,hw]) | (with_reducible first | refine ag ?_ | refine aW rfl ?_ | refine aK ?_ | refine dc ?_ ?_ | refine aj ?_ | refine am ?_ | refine aF fun K hK=>?_ | refine aA ?_) | (with_reducible refine hK _ ?_;clear hK K) | ((with_reducible refine aI ?_ ?_);(· decide)) | ((with_reducible refine ci (fun hc=>?_) (fun hc=>?_)) <;> (try simp only [decide_eq_true_eq,decide_eq_false_iff_not,Bool.not_true,Bool.not_false,Bool.not_eq_true',Bool.not_eq_false'] at hc) <;> (try (exfalso;omega))))
 all_goals (cases es <;> cases ks <;> simp_all [fi] <;> omega)
def gr : Nat→List Nat
 | 0=>[0]
 | 1=>[1]
 | _=>[]
set_option maxRecDepth 100000 in
set_option maxHeartbeats 4000000 in
theorem zF (e : PA) : AFn Tryz.prog 185 [.agg (paA e)] [] (.c (.bool (fP e))) []:=by
 obtain ⟨k,c,e,v,f,n,ks⟩:=e
 have h1:=qG c
 have h2:=kh e
 have h3:=kh v
 obtain ⟨p1,q1⟩ : ∃ p,p = fi c:=⟨_,rfl⟩
 obtain ⟨p2,q2⟩ : ∃ p,p = dG e:=⟨_,rfl⟩
 obtain ⟨p3,q3⟩ : ∃ p,p = dG v:=⟨_,rfl⟩
 have hR : fP (.mk k c e v f n ks) = (!decide (k = 0) || (p1 || (p2 || (p3 || (!f.isEmpty || (!decide (n = 0) || decide (0 < ks.length))))))):=by rw [fP,q1,q2,q3]
 rw [hR]
 rw [← q1] at h1
 rw [← q2] at h2
 rw [← q3] at h3
 clear hR q1 q2 q3
 obtain ⟨ck,ce,cks⟩:=c
 obtain ⟨ek,en,ex,eks⟩:=e
 obtain ⟨vk,vn,vx,vks⟩:=v
 simp only [paA,bR,peA,List.cons_append,List.nil_append] at h1 h2 h3 ⊢
 refine aC [] Tryz.func185 rfl Tryz.ntmps185 (Nat.le_of_ble_eq_true rfl) (Nat.le_of_ble_eq_true rfl) fun w0 G0 B0 Pr hB0=>?_
 simp only [aJ,aB,List.cons_append,List.nil_append]
 repeat' (first | (with_reducible refine hY _ ?_;clear hY Y) | ((with_reducible first | refine ar rfl (ay fun K' hK'=>aa ?_) | refine hK' _ (ab fun Y hY=>aa ?_) | refine ba rfl (ab fun Y hY=>aa ?_) | refine ab fun Y hY=>aa ?_ | refine ay fun K' hK'=>aa ?_ | refine ae tk0 gr (ab fun Y hY=>aa ?_) | refine aa ?_ | refine aq ?_);(try clear hK' K');(try dsimp only [aop]);try simp only [go_sem,seval,gr,Tryz.results185]) | (with_reducible first | refine ag ?_ | refine aW rfl ?_ | refine aK ?_ | refine dc ?_ ?_ | refine aj ?_ | refine am ?_ | refine aF fun K hK=>?_ | refine aA ?_) | (with_reducible refine hK _ ?_;clear hK K) | ((with_reducible refine aI ?_ ?_);(· decide)) | ((with_reducible refine ci (fun hc=>?_) (fun hc=>?_)) <;> (try simp only [decide_eq_true_eq,decide_eq_false_iff_not,Bool.not_true,Bool.not_false,Bool.not_eq_true',Bool.not_eq_false'] at hc) <;> (try (exfalso;omega))) | (with_reducible refine ac (h1) ?_) | (with_reducible refine ac (h2) ?_) | (with_reducible refine ac (h3) ?_) | (with_reducible refine bg (bN _) ?_))
 all_goals (clear h1 h2 h3;cases f <;> cases ks <;> simp_all <;> omega)
def iQ : Nat→List Nat
 | 0=>[0]
 | 1=>[1]
 | _=>[]
set_option maxRecDepth 100000 in
set_option maxHeartbeats 4000000 in
theorem D6 (e : PA) (ho : OkA e) : AFn Tryz.prog 215 [.agg (paA e)] [] (.c (.bool (fP e))) []:=by
 obtain ⟨k,c,e,v,f,n,ks⟩:=e
 have h1:=vZ c ho.2.1
 have h2:=oE e
 have h3:=oE v
 obtain ⟨p1,q1⟩ : ∃ p,p = fi c:=⟨_,rfl⟩
 obtain ⟨p2,q2⟩ : ∃ p,p = dG e:=⟨_,rfl⟩
 obtain ⟨p3,q3⟩ : ∃ p,p = dG v:=⟨_,rfl⟩
 have hR : fP (.mk k c e v f n ks) = (!decide (k = 0) || (p1 || (p2 || (p3 || (!f.isEmpty || (!decide (n = 0) || decide (0 < ks.length))))))):=by rw [fP,q1,q2,q3]
 rw [hR]
 rw [← q1] at h1
 rw [← q2] at h2
 rw [← q3] at h3
 clear hR q1 q2 q3 ho
 obtain ⟨ck,ce,cks⟩:=c
 obtain ⟨ek,en,ex,eks⟩:=e
 obtain ⟨vk,vn,vx,vks⟩:=v
 simp only [paA,bR,peA,List.cons_append,List.nil_append] at h1 h2 h3 ⊢
 refine aC [] Tryz.func215 rfl Tryz.ntmps215 (Nat.le_of_ble_eq_true rfl) (Nat.le_of_ble_eq_true rfl) fun w0 G0 B0 Pr hB0=>?_
 simp only [aJ,aB,List.cons_append,List.nil_append]
 repeat' (first | (with_reducible refine hY _ ?_;clear hY Y) | ((with_reducible first | refine ar rfl (ay fun K' hK'=>aa ?_) | refine hK' _ (ab fun Y hY=>aa ?_) | refine ba rfl (ab fun Y hY=>aa ?_) | refine ab fun Y hY=>aa ?_ | refine ay fun K' hK'=>aa ?_ | refine ae tk0 iQ (ab fun Y hY=>aa ?_) | refine aa ?_ | refine aq ?_);(try clear hK' K');(try dsimp only [aop]);try simp only [go_sem,seval,iQ,Tryz.results215]) | (with_reducible first | refine ag ?_ | refine aW rfl ?_ | refine aK ?_ | refine dc ?_ ?_ | refine aj ?_ | refine am ?_ | refine aF fun K hK=>?_ | refine aA ?_) | (with_reducible refine hK _ ?_;clear hK K) | ((with_reducible refine aI ?_ ?_);(· decide)) | ((with_reducible refine ci (fun hc=>?_) (fun hc=>?_)) <;> (try simp only [decide_eq_true_eq,decide_eq_false_iff_not,Bool.not_true,Bool.not_false,Bool.not_eq_true',Bool.not_eq_false'] at hc) <;> (try (exfalso;omega))) | (with_reducible refine ac (h1) ?_) | (with_reducible refine ac (h2) ?_) | (with_reducible refine ac (h3) ?_) | (with_reducible refine bg (bN _) ?_))
 all_goals (clear h1 h2 h3;cases f <;> cases ks <;> simp_all <;> omega)
theorem ni {α : Type} (p : α→Bool) (l : List α) : (!l.any fun x=>!p x) = l.all p:=by
 induction l with
 | nil=>rfl
 | cons a r ih=>rw [List.any_cons,List.all_cons,← ih];cases p a <;> simp
def ic : Nat→List Nat
 | 0=>[0]
 | 1=>[0]
 | _=>[]
set_option maxRecDepth 100000 in
theorem zY (x : Wd) (hx : Lg x) : AFn Tryz.prog 108 [bs x] [] (.c (.bool (!dQ x))) []:=by
 have h1:=ja x (by unfold Lg at hx;omega)
 refine aC [] Tryz.func108 rfl Tryz.ntmps108 (Nat.le_of_ble_eq_true rfl) (Nat.le_of_ble_eq_true rfl) fun w0 G0 B0 Pr hB0=>?_
 simp only [aJ,aB,List.cons_append,List.nil_append]
 repeat' (first | (with_reducible refine hY _ ?_;clear hY Y) | ((with_reducible first | refine ar rfl (ay fun K' hK'=>aa ?_) | refine hK' _ (ab fun Y hY=>aa ?_) | refine ae tk0 ic (ab fun Y hY=>aa ?_) | refine aa ?_ | refine aq ?_);(try clear hK' K');(try dsimp only [aop]);try simp only [go_sem,seval,ic,Tryz.results108]) | (with_reducible first | refine ag ?_ | refine aj ?_ | refine am ?_ | refine aF fun K hK=>?_ | refine aA ?_) | (with_reducible refine hK _ ?_;clear hK K) | (with_reducible refine ac (h1) ?_))
def ix : Nat→List Nat
 | 0=>[0]
 | 1=>[0]
 | _=>[]
set_option maxRecDepth 100000 in
theorem qT (l : List Wd) (hl : vJ l) : AFn Tryz.prog 43 [.sl (l.map bs) l.length .none] [] (.c (.bool (gx l))) []:=by
 have h1:=BG l 108 (fun x=>!dQ x) rfl hl.1 fun y hy=>zY y (hl.2 y hy)
 have h2 : (!l.any fun x=>!dQ x) = gx l:=ni _ _
 refine aC [] Tryz.func43 rfl Tryz.ntmps43 (Nat.le_of_ble_eq_true rfl) (Nat.le_of_ble_eq_true rfl) fun w0 G0 B0 Pr hB0=>?_
 simp only [aJ,aB,List.cons_append,List.nil_append]
 repeat' (first | (with_reducible refine hY _ ?_;clear hY Y) | ((with_reducible first | refine ar rfl (ay fun K' hK'=>aa ?_) | refine hK' _ (ab fun Y hY=>aa ?_) | refine ae tk0 ix (ab fun Y hY=>aa ?_) | refine aa ?_ | refine aq ?_);(try clear hK' K');(try dsimp only [aop]);try simp only [go_sem,seval,ix,Tryz.results43,h2]) | (with_reducible first | refine ag ?_ | refine aj ?_ | refine am ?_ | refine aF fun K hK=>?_ | refine aA ?_) | (with_reducible refine hK _ ?_;clear hK K) | (with_reducible refine ac (h1) ?_))
def cM : Nat→List Nat
 | 0=>[0]
 | 1=>[0]
 | 2=>[0,3]
 | 3=>[0,3]
 | 4=>[0,3]
 | 5=>[0,3,4]
 | 6=>[]
 | 7=>[]
 | _=>[]
set_option maxRecDepth 100000 in
set_option maxHeartbeats 4000000 in
theorem oJ (l : List Wd) (hl : vJ l) : AFn Tryz.prog 49 [.sl (l.map bs) l.length .none] [] (.c (.bool (gx l))) []:=by
 obtain ⟨hl,ho⟩:=hl
 unfold Lg at hl
 refine aC [] Tryz.func49 rfl Tryz.ntmps49 (Nat.le_of_ble_eq_true rfl) (Nat.le_of_ble_eq_true rfl) fun w0 G0 B0 Pr hB0=>?_
 simp only [aJ,aB,List.cons_append,List.nil_append]
 repeat' (first | (with_reducible refine hY _ ?_;clear hY Y) | ((with_reducible first | refine ar rfl (ay fun K' hK'=>aa ?_) | refine hK' _ (ab fun Y hY=>aa ?_) | refine ae tk0 cM (ab fun Y hY=>aa ?_));(try clear hK' K');(try dsimp only [aop]);try simp only [go_sem,seval,cM,Tryz.results49]) | (with_reducible first | refine ag ?_ | refine aj ?_ | refine am ?_ | refine aF fun K hK=>?_ | refine ap ?_ | refine bW ?_) | (with_reducible refine hK _ ?_;clear hK K))
 refine b9 (α:=Nat) (fun k=>[(0,.sl (l.map bs) l.length .none),(3,inA (k : Int))])
  (fun k=>k≤l.length∧∀ j (hj : j < l.length),j < k→dQ l[j] = true) (fun k=>l.length - k) 0 [0,3] ?_ ⟨Nat.zero_le _,fun j _ hj=>absurd hj (Nat.not_lt_zero _)⟩ ?_
 ·simp only [go_sem,seval] <;> rfl
 rintro k ⟨hk,hall⟩ ih
 by_cases hlt : k < l.length
 ·have hlt' : ((k : Int) < (l.length : Int)) = True:=eq_true (by omega)
  have hkw:=eB (n:=k) (by omega)
  have hg0:=lI (f:=bs) hlt
  have hfl : (l.map bs).length = l.length:=List.length_map ..
  have hxl:=ho l[k] (List.getElem_mem hlt)
  unfold Lg at hxl
  have h1:=kU l[k] (by omega)
  have hno : dQ l[k] = false→gx l = false:=fun e=>by
   unfold gx
   rw [List.all_eq_false]
   exact ⟨l[k],List.getElem_mem hlt,by rw [e];simp⟩
  have hnx : dQ l[k] = true→∀ j (hj : j < l.length),j < k + 1→dQ l[j] = true:=fun e j hj hjk=>by
   by_cases hj2 : j < k
   ·exact hall j hj hj2
   ·have : j = k:=by omega
    subst this;exact e
  generalize hp : dQ l[k] = b at *
  generalize l[k] = t at *
  cases b with
  | false =>
   rw [hno rfl]
   clear ih hnx hall ho
   repeat' (first | (with_reducible refine hY _ ?_;clear hY Y) | ((with_reducible first | refine ar rfl (ay fun K' hK'=>aa ?_) | refine hK' _ (ab fun Y hY=>aa ?_) | refine ab fun Y hY=>aa ?_ | refine ae tk0 cM (ab fun Y hY=>aa ?_) | refine aa ?_ | refine aq ?_);(try clear hK' K');(try dsimp only [aop]);try simp only [go_sem,seval,cM,Tryz.results49,hlt',hfl,hg0,hkw]) | (with_reducible first | refine ag ?_ | refine aj ?_ | refine am ?_ | refine aF fun K hK=>?_ | refine ax ?_ | refine aZ ?_ | refine bh ?_ | refine ap ?_ | refine aD ?_ | refine aA ?_) | (with_reducible refine hK _ ?_;clear hK K) | ((with_reducible refine ai ?_ ?_);(· decide)) | (with_reducible refine br ?_ ?_;(· (try and_intros) <;> first | omega | assumption | (simp only [List.length_append,List.length_map,List.length_cons,List.length_nil] <;> omega))) | (with_reducible refine ac (h1) ?_))
  | true =>
   clear hno
   repeat' (first | (with_reducible refine hY _ ?_;clear hY Y) | ((with_reducible first | refine ar rfl (ay fun K' hK'=>aa ?_) | refine hK' _ (ab fun Y hY=>aa ?_) | refine ab fun Y hY=>aa ?_ | refine ae tk0 cM (ab fun Y hY=>aa ?_) | refine aa ?_);(try clear hK' K');(try dsimp only [aop]);try simp only [go_sem,seval,cM,Tryz.results49,hlt',hfl,hg0,hkw]) | (with_reducible first | refine ag ?_ | refine aj ?_ | refine am ?_ | refine aF fun K hK=>?_ | refine ax ?_ | refine av ?_ | refine aR ?_ | refine ap ?_ | refine aD ?_) | (with_reducible refine hK _ ?_;clear hK K) | ((with_reducible refine ai ?_ ?_);(· decide)) | (with_reducible refine br ?_ ?_;(· (try and_intros) <;> first | omega | assumption | (simp only [List.length_append,List.length_map,List.length_cons,List.length_nil] <;> omega))) | (with_reducible refine ac (h1) ?_))
   refine bi [0,3] (by simp only [go_sem,seval];exact rfl) ?_
   exact ih (k + 1) ⟨by omega,hnx rfl⟩ (by omega)
 ·have hlt' : ((k : Int) < (l.length : Int)) = False:=eq_false (by omega)
  have hR : gx l = true:=by
   unfold gx
   rw [List.all_eq_true]
   intro x hx
   obtain ⟨j,hj,rfl⟩:=List.getElem_of_mem hx
   exact hall j hj (by omega)
  rw [hR]
  clear ih hall ho
  repeat' (first | (with_reducible refine hY _ ?_;clear hY Y) | ((with_reducible first | refine ar rfl (ay fun K' hK'=>aa ?_) | refine hK' _ (ab fun Y hY=>aa ?_) | refine ab fun Y hY=>aa ?_ | refine ae tk0 cM (ab fun Y hY=>aa ?_) | refine aa ?_ | refine aq ?_);(try clear hK' K');(try dsimp only [aop]);try simp only [go_sem,seval,cM,Tryz.results49,hlt']) | (with_reducible first | refine ag ?_ | refine aj ?_ | refine am ?_ | refine aF fun K hK=>?_ | refine av ?_ | refine cf ?_ | refine bI ?_ | refine aA ?_ | refine bH ?_) | (with_reducible refine hK _ ?_;clear hK K) | ((with_reducible refine ai ?_ ?_);(· decide)))
end Go.Proofs.YtkjnkkmokojnpaaGreatDoor
