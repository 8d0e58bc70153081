/- How deep statements are; what is not empty; in K. -/
import Derived.Test.YtkjnkkmokojnpaaGreatDoorZ13
import Derived.Test.YtkjnkkmokojnpaaGreatDoorZ10
namespace Go.Proofs.YtkjnkkmokojnpaaGreatDoor
set_option linter.unusedSimpArgs false
set_option linter.unusedVariables false
open Go.RowKit
def fO : Nat → List Nat
 | 0 => [0]
 | 1 => [1]
 | _ => []
set_option maxRecDepth 100000 in
set_option maxHeartbeats 4000000 in
theorem jW (e : PE) : AFn Tryz.prog 122 [.agg (peA e)] [] (.c (.bool (dx e))) [] := by
 obtain ⟨k,n,x,ks⟩ := e
 simp only [peA]
 refine aM [] Tryz.func122 rfl Tryz.ntmps122 (Nat.le_of_ble_eq_true rfl) (Nat.le_of_ble_eq_true rfl) fun w0 G0 B0 Pr hB0 => ?_
 simp only [aW,aL,List.cons_append,List.nil_append]
 repeat' (first | (with_reducible refine hY _ ?_; clear hY Y) | ((with_reducible first | refine au rfl (ay fun K' hK' => aa ?_) | refine hK' _ (ab fun Y hY => aa ?_) | refine bf rfl (ab fun Y hY => aa ?_) | refine ab fun Y hY => aa ?_ | refine ay fun K' hK' => aa ?_ | refine ac tk0 fO (ab fun Y hY => aa ?_) | refine aa ?_ | refine ax ?_); (try clear hK' K'); (try dsimp only [aop]); try simp only [go_sem,seval,fO,Tryz.results122]) | (with_reducible first | refine ag ?_ | refine aU rfl ?_ | refine aK ?_ | refine cN ?_ ?_ | refine am ?_ | refine aq ?_ | refine aG fun K hK => ?_ | refine aB ?_) | (with_reducible refine hK _ ?_; clear hK K) | ((with_reducible refine aJ ?_ ?_); (· decide)) | ((with_reducible refine bP (fun hc => ?_) (fun hc => ?_)) <;> (try simp only [decide_eq_true_eq,decide_eq_false_iff_not,Bool.not_true,Bool.not_false,Bool.not_eq_true',Bool.not_eq_false'] at hc) <;> (try (exfalso; omega))) | (with_reducible refine bv (bW _) ?_))
 all_goals (cases x <;> cases ks <;> simp_all [dx] <;> omega)
def iP : Nat → List Nat
 | 0 => [0]
 | 1 => [1]
 | _ => []
set_option maxRecDepth 100000 in
set_option maxHeartbeats 4000000 in
theorem og (e : PE) : AFn Tryz.prog 112 [.agg (peA e)] [] (.c (.bool (dx e))) [] := by
 obtain ⟨k,n,x,ks⟩ := e
 simp only [peA]
 refine aM [] Tryz.func112 rfl Tryz.ntmps112 (Nat.le_of_ble_eq_true rfl) (Nat.le_of_ble_eq_true rfl) fun w0 G0 B0 Pr hB0 => ?_
 simp only [aW,aL,List.cons_append,List.nil_append]
 repeat' (first | (with_reducible refine hY _ ?_; clear hY Y) | ((with_reducible first | refine au rfl (ay fun K' hK' => aa ?_) | refine hK' _ (ab fun Y hY => aa ?_) | refine bf rfl (ab fun Y hY => aa ?_) | refine ab fun Y hY => aa ?_ | refine ay fun K' hK' => aa ?_ | refine ac tk0 iP (ab fun Y hY => aa ?_) | refine aa ?_ | refine ax ?_); (try clear hK' K'); (try dsimp only [aop]); try simp only [go_sem,seval,iP,Tryz.results112]) | (with_reducible first | refine ag ?_ | refine aU rfl ?_ | refine aK ?_ | refine cN ?_ ?_ | refine am ?_ | refine aq ?_ | refine aG fun K hK => ?_ | refine aB ?_) | (with_reducible refine hK _ ?_; clear hK K) | ((with_reducible refine aJ ?_ ?_); (· decide)) | ((with_reducible refine bP (fun hc => ?_) (fun hc => ?_)) <;> (try simp only [decide_eq_true_eq,decide_eq_false_iff_not,Bool.not_true,Bool.not_false,Bool.not_eq_true',Bool.not_eq_false'] at hc) <;> (try (exfalso; omega))) | (with_reducible refine bv (bW _) ?_))
 all_goals (cases x <;> cases ks <;> simp_all [dx] <;> omega)
def fN : Nat → List Nat
 | 0 => [0]
 | 1 => [1]
 | _ => []
set_option maxRecDepth 100000 in
set_option maxHeartbeats 4000000 in
theorem pW (e : PC) : AFn Tryz.prog 121 [.agg (ci e)] [] (.c (.bool (eK e))) [] := by
 obtain ⟨k,es,ks⟩ := e
 simp only [ci]
 refine aM [] Tryz.func121 rfl Tryz.ntmps121 (Nat.le_of_ble_eq_true rfl) (Nat.le_of_ble_eq_true rfl) fun w0 G0 B0 Pr hB0 => ?_
 simp only [aW,aL,List.cons_append,List.nil_append]
 repeat' (first | (with_reducible refine hY _ ?_; clear hY Y) | ((with_reducible first | refine au rfl (ay fun K' hK' => aa ?_) | refine hK' _ (ab fun Y hY => aa ?_) | refine bf rfl (ab fun Y hY => aa ?_) | refine ab fun Y hY => aa ?_ | refine ay fun K' hK' => aa ?_ | refine ac tk0 fN (ab fun Y hY => aa ?_) | refine aa ?_ | refine ax ?_); (try clear hK' K'); (try dsimp only [aop]); try simp only [go_sem,seval,fN,Tryz.results121]) | (with_reducible first | refine ag ?_ | refine aU rfl ?_ | refine aK ?_ | refine cN ?_ ?_ | refine am ?_ | refine aq ?_ | refine aG fun K hK => ?_ | refine aB ?_) | (with_reducible refine hK _ ?_; clear hK K) | ((with_reducible refine aJ ?_ ?_); (· decide)) | ((with_reducible refine bP (fun hc => ?_) (fun hc => ?_)) <;> (try simp only [decide_eq_true_eq,decide_eq_false_iff_not,Bool.not_true,Bool.not_false,Bool.not_eq_true',Bool.not_eq_false'] at hc) <;> (try (exfalso; omega))))
 all_goals (cases es <;> cases ks <;> simp_all [eK] <;> omega)
def iO : Nat → List Nat
 | 0 => [0]
 | 1 => [1]
 | _ => []
set_option maxRecDepth 100000 in
set_option maxHeartbeats 4000000 in
theorem u6 (e : PC) (ho : OkC e) : AFn Tryz.prog 110 [.agg (ci e)] [] (.c (.bool (eK e))) [] := by
 obtain ⟨k,es,ks⟩ := e
 obtain ⟨_,⟨h1,_⟩,h2,_⟩ := ho
 unfold Lg at h1 h2
 have hw : IntKind.i64.wrap ((es.length : Int) + (ks.length : Int)) = ((es.length + ks.length : Nat) : Int) := by rw [cF (by omega) (by omega)]; omega
 simp only [ci]
 refine aM [] Tryz.func110 rfl Tryz.ntmps110 (Nat.le_of_ble_eq_true rfl) (Nat.le_of_ble_eq_true rfl) fun w0 G0 B0 Pr hB0 => ?_
 simp only [aW,aL,List.cons_append,List.nil_append]
 repeat' (first | (with_reducible refine hY _ ?_; clear hY Y) | ((with_reducible first | refine au rfl (ay fun K' hK' => aa ?_) | refine hK' _ (ab fun Y hY => aa ?_) | refine bf rfl (ab fun Y hY => aa ?_) | refine ab fun Y hY => aa ?_ | refine ay fun K' hK' => aa ?_ | refine ac tk0 iO (ab fun Y hY => aa ?_) | refine aa ?_ | refine ax ?_); (try clear hK' K'); (try dsimp only [aop]); try simp only [go_sem,seval,iO,Tryz.results110,hw]) | (with_reducible first | refine ag ?_ | refine aU rfl ?_ | refine aK ?_ | refine cN ?_ ?_ | refine am ?_ | refine aq ?_ | refine aG fun K hK => ?_ | refine aB ?_) | (with_reducible refine hK _ ?_; clear hK K) | ((with_reducible refine aJ ?_ ?_); (· decide)) | ((with_reducible refine bP (fun hc => ?_) (fun hc => ?_)) <;> (try simp only [decide_eq_true_eq,decide_eq_false_iff_not,Bool.not_true,Bool.not_false,Bool.not_eq_true',Bool.not_eq_false'] at hc) <;> (try (exfalso; omega))))
 all_goals (cases es <;> cases ks <;> simp_all [eK] <;> omega)
def fM : Nat → List Nat
 | 0 => [0]
 | 1 => [1]
 | _ => []
set_option maxRecDepth 100000 in
set_option maxHeartbeats 4000000 in
theorem yF (e : PA) : AFn Tryz.prog 185 [.agg (paA e)] [] (.c (.bool (fh e))) [] := by
 obtain ⟨k,c,e,v,f,n,ks⟩ := e
 have h1 := pW c
 have h2 := jW e
 have h3 := jW v
 obtain ⟨p1,q1⟩ : ∃ p,p = eK c := ⟨_,rfl⟩
 obtain ⟨p2,q2⟩ : ∃ p,p = dx e := ⟨_,rfl⟩
 obtain ⟨p3,q3⟩ : ∃ p,p = dx v := ⟨_,rfl⟩
 have hR : fh (.mk k c e v f n ks) = (!decide (k = 0) || (p1 || (p2 || (p3 || (!f.isEmpty || (!decide (n = 0) || decide (0 < ks.length))))))) := by rw [fh,q1,q2,q3]
 rw [hR]
 rw [← q1] at h1
 rw [← q2] at h2
 rw [← q3] at h3
 clear hR q1 q2 q3
 obtain ⟨ck,ce,cks⟩ := c
 obtain ⟨ek,en,ex,eks⟩ := e
 obtain ⟨vk,vn,vx,vks⟩ := v
 simp only [paA,ci,peA,List.cons_append,List.nil_append] at h1 h2 h3 ⊢
 refine aM [] Tryz.func185 rfl Tryz.ntmps185 (Nat.le_of_ble_eq_true rfl) (Nat.le_of_ble_eq_true rfl) fun w0 G0 B0 Pr hB0 => ?_
 simp only [aW,aL,List.cons_append,List.nil_append]
 repeat' (first | (with_reducible refine hY _ ?_; clear hY Y) | ((with_reducible first | refine au rfl (ay fun K' hK' => aa ?_) | refine hK' _ (ab fun Y hY => aa ?_) | refine bf rfl (ab fun Y hY => aa ?_) | refine ab fun Y hY => aa ?_ | refine ay fun K' hK' => aa ?_ | refine ac tk0 fM (ab fun Y hY => aa ?_) | refine aa ?_ | refine ax ?_); (try clear hK' K'); (try dsimp only [aop]); try simp only [go_sem,seval,fM,Tryz.results185]) | (with_reducible first | refine ag ?_ | refine aU rfl ?_ | refine aK ?_ | refine cN ?_ ?_ | refine am ?_ | refine aq ?_ | refine aG fun K hK => ?_ | refine aB ?_) | (with_reducible refine hK _ ?_; clear hK K) | ((with_reducible refine aJ ?_ ?_); (· decide)) | ((with_reducible refine bP (fun hc => ?_) (fun hc => ?_)) <;> (try simp only [decide_eq_true_eq,decide_eq_false_iff_not,Bool.not_true,Bool.not_false,Bool.not_eq_true',Bool.not_eq_false'] at hc) <;> (try (exfalso; omega))) | (with_reducible refine ae (h1) ?_) | (with_reducible refine ae (h2) ?_) | (with_reducible refine ae (h3) ?_) | (with_reducible refine bv (bW _) ?_))
 all_goals (clear h1 h2 h3; cases f <;> cases ks <;> simp_all <;> omega)
def iN : Nat → List Nat
 | 0 => [0]
 | 1 => [1]
 | _ => []
set_option maxRecDepth 100000 in
set_option maxHeartbeats 4000000 in
theorem C6 (e : PA) (ho : OkA e) : AFn Tryz.prog 215 [.agg (paA e)] [] (.c (.bool (fh e))) [] := by
 obtain ⟨k,c,e,v,f,n,ks⟩ := e
 have h1 := u6 c ho.2.1
 have h2 := og e
 have h3 := og v
 obtain ⟨p1,q1⟩ : ∃ p,p = eK c := ⟨_,rfl⟩
 obtain ⟨p2,q2⟩ : ∃ p,p = dx e := ⟨_,rfl⟩
 obtain ⟨p3,q3⟩ : ∃ p,p = dx v := ⟨_,rfl⟩
 have hR : fh (.mk k c e v f n ks) = (!decide (k = 0) || (p1 || (p2 || (p3 || (!f.isEmpty || (!decide (n = 0) || decide (0 < ks.length))))))) := by rw [fh,q1,q2,q3]
 rw [hR]
 rw [← q1] at h1
 rw [← q2] at h2
 rw [← q3] at h3
 clear hR q1 q2 q3 ho
 obtain ⟨ck,ce,cks⟩ := c
 obtain ⟨ek,en,ex,eks⟩ := e
 obtain ⟨vk,vn,vx,vks⟩ := v
 simp only [paA,ci,peA,List.cons_append,List.nil_append] at h1 h2 h3 ⊢
 refine aM [] Tryz.func215 rfl Tryz.ntmps215 (Nat.le_of_ble_eq_true rfl) (Nat.le_of_ble_eq_true rfl) fun w0 G0 B0 Pr hB0 => ?_
 simp only [aW,aL,List.cons_append,List.nil_append]
 repeat' (first | (with_reducible refine hY _ ?_; clear hY Y) | ((with_reducible first | refine au rfl (ay fun K' hK' => aa ?_) | refine hK' _ (ab fun Y hY => aa ?_) | refine bf rfl (ab fun Y hY => aa ?_) | refine ab fun Y hY => aa ?_ | refine ay fun K' hK' => aa ?_ | refine ac tk0 iN (ab fun Y hY => aa ?_) | refine aa ?_ | refine ax ?_); (try clear hK' K'); (try dsimp only [aop]); try simp only [go_sem,seval,iN,Tryz.results215]) | (with_reducible first | refine ag ?_ | refine aU rfl ?_ | refine aK ?_ | refine cN ?_ ?_ | refine am ?_ | refine aq ?_ | refine aG fun K hK => ?_ | refine aB ?_) | (with_reducible refine hK _ ?_; clear hK K) | ((with_reducible refine aJ ?_ ?_); (· decide)) | ((with_reducible refine bP (fun hc => ?_) (fun hc => ?_)) <;> (try simp only [decide_eq_true_eq,decide_eq_false_iff_not,Bool.not_true,Bool.not_false,Bool.not_eq_true',Bool.not_eq_false'] at hc) <;> (try (exfalso; omega))) | (with_reducible refine ae (h1) ?_) | (with_reducible refine ae (h2) ?_) | (with_reducible refine ae (h3) ?_) | (with_reducible refine bv (bW _) ?_))
 all_goals (clear h1 h2 h3; cases f <;> cases ks <;> simp_all <;> omega)
theorem mG {α : Type} (p : α → Bool) (l : List α) : (!l.any fun x => !p x) = l.all p := by
 induction l with
 | nil => rfl
 | cons a r ih => rw [List.any_cons,List.all_cons,← ih]; cases p a <;> simp
def gP : Nat → List Nat
 | 0 => [0]
 | 1 => [0]
 | _ => []
set_option maxRecDepth 100000 in
theorem yX (x : Wd) (hx : Lg x) : AFn Tryz.prog 108 [bs x] [] (.c (.bool (!dM x))) [] := by
 have h1 := i9 x (by unfold Lg at hx; omega)
 refine aM [] Tryz.func108 rfl Tryz.ntmps108 (Nat.le_of_ble_eq_true rfl) (Nat.le_of_ble_eq_true rfl) fun w0 G0 B0 Pr hB0 => ?_
 simp only [aW,aL,List.cons_append,List.nil_append]
 repeat' (first | (with_reducible refine hY _ ?_; clear hY Y) | ((with_reducible first | refine au rfl (ay fun K' hK' => aa ?_) | refine hK' _ (ab fun Y hY => aa ?_) | refine ac tk0 gP (ab fun Y hY => aa ?_) | refine aa ?_ | refine ax ?_); (try clear hK' K'); (try dsimp only [aop]); try simp only [go_sem,seval,gP,Tryz.results108]) | (with_reducible first | refine ag ?_ | refine am ?_ | refine aq ?_ | refine aG fun K hK => ?_ | refine aB ?_) | (with_reducible refine hK _ ?_; clear hK K) | (with_reducible refine ae (h1) ?_))
def io : Nat → List Nat
 | 0 => [0]
 | 1 => [0]
 | _ => []
set_option maxRecDepth 100000 in
theorem qj (l : List Wd) (hl : tJ l) : AFn Tryz.prog 43 [.sl (l.map bs) l.length .none] [] (.c (.bool (fR l))) [] := by
 have h1 := AF l 108 (fun x => !dM x) rfl hl.1 fun y hy => yX y (hl.2 y hy)
 have h2 : (!l.any fun x => !dM x) = fR l := mG _ _
 refine aM [] Tryz.func43 rfl Tryz.ntmps43 (Nat.le_of_ble_eq_true rfl) (Nat.le_of_ble_eq_true rfl) fun w0 G0 B0 Pr hB0 => ?_
 simp only [aW,aL,List.cons_append,List.nil_append]
 repeat' (first | (with_reducible refine hY _ ?_; clear hY Y) | ((with_reducible first | refine au rfl (ay fun K' hK' => aa ?_) | refine hK' _ (ab fun Y hY => aa ?_) | refine ac tk0 io (ab fun Y hY => aa ?_) | refine aa ?_ | refine ax ?_); (try clear hK' K'); (try dsimp only [aop]); try simp only [go_sem,seval,io,Tryz.results43,h2]) | (with_reducible first | refine ag ?_ | refine am ?_ | refine aq ?_ | refine aG fun K hK => ?_ | refine aB ?_) | (with_reducible refine hK _ ?_; clear hK K) | (with_reducible refine ae (h1) ?_))
def cK : Nat → List Nat
 | 0 => [0]
 | 1 => [0]
 | 2 => [0,3]
 | 3 => [0,3]
 | 4 => [0,3]
 | 5 => [0,3,4]
 | 6 => []
 | 7 => []
 | _ => []
set_option maxRecDepth 100000 in
set_option maxHeartbeats 4000000 in
theorem ol (l : List Wd) (hl : tJ l) : AFn Tryz.prog 49 [.sl (l.map bs) l.length .none] [] (.c (.bool (fR l))) [] := by
 obtain ⟨hl,ho⟩ := hl
 unfold Lg at hl
 refine aM [] Tryz.func49 rfl Tryz.ntmps49 (Nat.le_of_ble_eq_true rfl) (Nat.le_of_ble_eq_true rfl) fun w0 G0 B0 Pr hB0 => ?_
 simp only [aW,aL,List.cons_append,List.nil_append]
 repeat' (first | (with_reducible refine hY _ ?_; clear hY Y) | ((with_reducible first | refine au rfl (ay fun K' hK' => aa ?_) | refine hK' _ (ab fun Y hY => aa ?_) | refine ac tk0 cK (ab fun Y hY => aa ?_)); (try clear hK' K'); (try dsimp only [aop]); try simp only [go_sem,seval,cK,Tryz.results49]) | (with_reducible first | refine ag ?_ | refine am ?_ | refine aq ?_ | refine aG fun K hK => ?_ | refine av ?_ | refine bR ?_) | (with_reducible refine hK _ ?_; clear hK K))
 refine bX (α := Nat) (fun k => [(0,.sl (l.map bs) l.length .none),(3,inA (k : Int))])
  (fun k => k ≤ l.length ∧ ∀ j (hj : j < l.length),j < k → dM l[j] = true) (fun k => l.length - k) 0 [0,3] ?_ ⟨Nat.zero_le _,fun j _ hj => absurd hj (Nat.not_lt_zero _)⟩ ?_
 ·simp only [go_sem,seval] <;> rfl
 rintro k ⟨hk,hall⟩ ih
 by_cases hlt : k < l.length
 ·have hlt' : ((k : Int) < (l.length : Int)) = True := eq_true (by omega)
  have hkw := dp (n := k) (by omega)
  have hg0 := i8 (f := bs) hlt
  have hfl : (l.map bs).length = l.length := List.length_map ..
  have hxl := ho l[k] (List.getElem_mem hlt)
  unfold Lg at hxl
  have h1 := kx l[k] (by omega)
  have hno : dM l[k] = false → fR l = false := fun e => by
   unfold fR
   rw [List.all_eq_false]
   exact ⟨l[k],List.getElem_mem hlt,by rw [e]; simp⟩
  have hnx : dM l[k] = true → ∀ j (hj : j < l.length),j < k + 1 → dM l[j] = true := fun e j hj hjk => by
   by_cases hj2 : j < k
   ·exact hall j hj hj2
   ·have : j = k := by omega
    subst this; exact e
  generalize hp : dM l[k] = b at *
  generalize l[k] = t at *
  cases b with
  | false =>
   rw [hno rfl]
   clear ih hnx hall ho
   repeat' (first | (with_reducible refine hY _ ?_; clear hY Y) | ((with_reducible first | refine au rfl (ay fun K' hK' => aa ?_) | refine hK' _ (ab fun Y hY => aa ?_) | refine ab fun Y hY => aa ?_ | refine ac tk0 cK (ab fun Y hY => aa ?_) | refine aa ?_ | refine ax ?_); (try clear hK' K'); (try dsimp only [aop]); try simp only [go_sem,seval,cK,Tryz.results49,hlt',hfl,hg0,hkw]) | (with_reducible first | refine ag ?_ | refine am ?_ | refine aq ?_ | refine aG fun K hK => ?_ | refine az ?_ | refine bh ?_ | refine bp ?_ | refine av ?_ | refine aH ?_ | refine aB ?_) | (with_reducible refine hK _ ?_; clear hK K) | ((with_reducible refine ai ?_ ?_); (· decide)) | (with_reducible refine bm ?_ ?_; (· (try and_intros) <;> first | omega | assumption | (simp only [List.length_append,List.length_map,List.length_cons,List.length_nil] <;> omega))) | (with_reducible refine ae (h1) ?_))
  | true =>
   clear hno
   repeat' (first | (with_reducible refine hY _ ?_; clear hY Y) | ((with_reducible first | refine au rfl (ay fun K' hK' => aa ?_) | refine hK' _ (ab fun Y hY => aa ?_) | refine ab fun Y hY => aa ?_ | refine ac tk0 cK (ab fun Y hY => aa ?_) | refine aa ?_); (try clear hK' K'); (try dsimp only [aop]); try simp only [go_sem,seval,cK,Tryz.results49,hlt',hfl,hg0,hkw]) | (with_reducible first | refine ag ?_ | refine am ?_ | refine aq ?_ | refine aG fun K hK => ?_ | refine az ?_ | refine aA ?_ | refine ba ?_ | refine av ?_ | refine aH ?_) | (with_reducible refine hK _ ?_; clear hK K) | ((with_reducible refine ai ?_ ?_); (· decide)) | (with_reducible refine bm ?_ ?_; (· (try and_intros) <;> first | omega | assumption | (simp only [List.length_append,List.length_map,List.length_cons,List.length_nil] <;> omega))) | (with_reducible refine ae (h1) ?_))
   refine bg [0,3] (by simp only [go_sem,seval]; exact rfl) ?_
   exact ih (k + 1) ⟨by omega,hnx rfl⟩ (by omega)
 ·have hlt' : ((k : Int) < (l.length : Int)) = False := eq_false (by omega)
  have hR : fR l = true := by
   unfold fR
   rw [List.all_eq_true]
   intro x hx
   obtain ⟨j,hj,rfl⟩ := List.getElem_of_mem hx
   exact hall j hj (by omega)
  rw [hR]
  clear ih hall ho
  repeat' (first | (with_reducible refine hY _ ?_; clear hY Y) | ((with_reducible first | refine au rfl (ay fun K' hK' => aa ?_) | refine hK' _ (ab fun Y hY => aa ?_) | refine ab fun Y hY => aa ?_ | refine ac tk0 cK (ab fun Y hY => aa ?_) | refine aa ?_ | refine ax ?_); (try clear hK' K'); (try dsimp only [aop]); try simp only [go_sem,seval,cK,Tryz.results49,hlt']) | (with_reducible first | refine ag ?_ | refine am ?_ | refine aq ?_ | refine aG fun K hK => ?_ | refine aA ?_ | refine bY ?_ | refine bF ?_ | refine aB ?_ | refine bE ?_) | (with_reducible refine hK _ ?_; clear hK K) | ((with_reducible refine ai ?_ ?_); (· decide)))
end Go.Proofs.YtkjnkkmokojnpaaGreatDoor
