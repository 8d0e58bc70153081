/- Names in K: whether one of the variables is so; shares. -/
import Derived.Test.YtkjnkkmokojnpaaGreatDoorZ12
import Derived.Test.YtkjnkkmokojnpaaGreatDoorZ15
namespace Go.Proofs.YtkjnkkmokojnpaaGreatDoor
set_option linter.unusedSimpArgs false
set_option linter.unusedVariables false
open Go.RowKit
theorem gj {α : Type} {P : α → Prop} {a : α} {l : List α} (h : P a) (k : ∀ e ∈ l,P e) : ∀ e ∈ a :: l,P e := fun e he => by
 rcases List.mem_cons.1 he with rfl | he
 ·exact h
 ·exact k e he
structure IsC (F : Nat) (cc : List AV) (p : Wd → Bool) : Prop where
 ok : aR Tryz.prog F = true
 tells : ∀ x : Wd,Lg x → AFn Tryz.prog F [bs x,.rf cc 0] [] (.c (.bool (p x))) []
abbrev isF (F : Nat) (cc : List AV) : AV := .fn (.func F) [] [.rf cc 0]
section
variable {F : Nat} {cc : List AV} {p : Wd → Bool}
abbrev rX (F : Nat) (cc : List AV) (p : Wd → Bool) (e : PE) : Prop := AFn Tryz.prog 81 [.agg (peA e),isF F cc] [] (.c (.bool (ma p e))) []
abbrev pq (F : Nat) (cc : List AV) (p : Wd → Bool) (l : List PE) : Prop := AFn Tryz.prog 83 [.sl (cl l) l.length .none,isF F cc] [] (.c (.bool (kG p l))) []
def gD : Nat → List Nat
 | 0 => [0,1]
 | 1 => [1,2]
 | _ => []
set_option maxRecDepth 100000 in
theorem Dc (e : PE) (h : rX F cc p e) : AFn Tryz.prog 165 [.agg (peA e),.rf [isF F cc] 0] [] (.c (.bool (ma p e))) [] := by
 unfold rX isF at h
 obtain ⟨k,n,x,ks⟩ := e
 generalize ma p (.mk k n x ks) = b at *
 simp only [peA,List.cons_append,List.nil_append,isF] at h ⊢
 refine aM [] Tryz.func165 rfl Tryz.ntmps165 (Nat.le_of_ble_eq_true rfl) (Nat.le_of_ble_eq_true rfl) fun w0 G0 B0 Pr hB0 => ?_
 simp only [aW,aL,List.cons_append,List.nil_append]
 repeat' (first | (with_reducible refine hY _ ?_; clear hY Y) | ((with_reducible first | refine au rfl (ay fun K' hK' => aa ?_) | refine hK' _ (ab fun Y hY => aa ?_) | refine ac tk0 gD (ab fun Y hY => aa ?_) | refine aa ?_ | refine ax ?_); (try clear hK' K'); (try dsimp only [aop]); try simp only [go_sem,seval,gD,Tryz.results165]) | (with_reducible first | refine ag ?_ | refine am ?_ | refine aq ?_ | refine aG fun K hK => ?_ | refine aB ?_) | (with_reducible refine hK _ ?_; clear hK K) | (with_reducible refine ae (h) ?_))
def ez : Nat → List Nat
 | 0 => [0,1]
 | 1 => [0,3]
 | _ => []
set_option maxRecDepth 100000 in
theorem wj (l : List PE) (hl : Lg l) (h : ∀ e ∈ l,rX F cc p e) : pq F cc p l := by
 have h1 := sD l 165 [isF F cc] (ma p) rfl hl fun y hy => Dc y (h y hy)
 rw [← rp] at h1
 unfold pq
 generalize kG p l = b at *
 simp only [isF] at h1 ⊢
 refine aM [] Tryz.func83 rfl Tryz.ntmps83 (Nat.le_of_ble_eq_true rfl) (Nat.le_of_ble_eq_true rfl) fun w0 G0 B0 Pr hB0 => ?_
 simp only [aW,aL,List.cons_append,List.nil_append]
 repeat' (first | (with_reducible refine hY _ ?_; clear hY Y) | ((with_reducible first | refine au rfl (ay fun K' hK' => aa ?_) | refine hK' _ (ab fun Y hY => aa ?_)); (try clear hK' K'); (try dsimp only [aop]); try simp only [go_sem,seval,ez,Tryz.results83]) | (with_reducible first | refine ag ?_ | refine am ?_ | refine aG fun K hK => ?_) | ((with_reducible refine bC 1 ?_ ?_); (· rfl)) | ((with_reducible refine aS 1 tk0 ez ?_ (ab fun Y hY => aa ?_)); (· rfl); (try dsimp only [aop]); try simp only [go_sem,seval,ez,Tryz.results83]) | (with_reducible refine hK _ ?_; clear hK K))
 refine dj 10003 ⟨by decide,by decide⟩ rfl rfl (by simp only [go_sem,seval]; exact rfl) (by simp only [go_sem,seval]; exact rfl) ?_
 repeat' (first | (with_reducible refine hY _ ?_; clear hY Y) | ((with_reducible first | refine au rfl (ay fun K' hK' => aa ?_) | refine hK' _ (ab fun Y hY => aa ?_) | refine ac tk0 ez (ab fun Y hY => aa ?_) | refine aa ?_ | refine ax ?_); (try clear hK' K'); (try dsimp only [aop]); try simp only [go_sem,seval,ez,Tryz.results83]) | (with_reducible first | refine ag ?_ | refine am ?_ | refine aq ?_ | refine aG fun K hK => ?_ | refine aB ?_) | (with_reducible refine hK _ ?_; clear hK K) | (with_reducible refine ae (h1) ?_))
def eW : Nat → List Nat
 | 0 => [0,1]
 | 1 => [1,2]
 | _ => []
set_option maxRecDepth 100000 in
set_option maxHeartbeats 4000000 in
theorem Eg (hF : IsC F cc p) (k n : Int) (x : Wd) (ks : List PE) (hx : Lg x) (h : pq F cc p ks) : rX F cc p (.mk k n x ks) := by
 have hok := hF.ok
 have h1 := hF.tells x hx
 unfold pq at h
 unfold rX
 rw [ma]
 generalize kG p ks = b at *
 generalize p x = q at *
 simp only [peA,isF] at h ⊢
 by_cases hk : k = 1
 ·subst hk
  refine aM [] Tryz.func81 rfl Tryz.ntmps81 (Nat.le_of_ble_eq_true rfl) (Nat.le_of_ble_eq_true rfl) fun w0 G0 B0 Pr hB0 => ?_
  simp only [aW,aL,List.cons_append,List.nil_append]
  repeat' (first | (with_reducible refine hY _ ?_; clear hY Y) | ((with_reducible first | refine au rfl (ay fun K' hK' => aa ?_) | refine hK' _ (ab fun Y hY => aa ?_) | refine bf rfl (ab fun Y hY => aa ?_) | refine ab fun Y hY => aa ?_ | refine ay fun K' hK' => aa ?_ | refine ac tk0 eW (ab fun Y hY => aa ?_) | refine aa ?_ | refine ax ?_); (try clear hK' K'); (try dsimp only [aop]); try simp only [go_sem,seval,eW,Tryz.results81,hok]) | (with_reducible first | refine ag ?_ | refine aU rfl ?_ | refine aK ?_ | refine cN ?_ ?_ | refine am ?_ | refine aq ?_ | refine aG fun K hK => ?_ | refine aB ?_) | (with_reducible refine hK _ ?_; clear hK K) | ((with_reducible refine aJ ?_ ?_); (· decide)) | ((with_reducible refine bP (fun hc => ?_) (fun hc => ?_)) <;> (try simp only [decide_eq_true_eq,decide_eq_false_iff_not,Bool.not_true,Bool.not_false,Bool.not_eq_true',Bool.not_eq_false'] at hc) <;> (try (exfalso; omega))) | (with_reducible refine ae (h) ?_) | (with_reducible refine ae (h1) ?_))
  all_goals simp_all
 ·have hk' : (k = 1) = False := eq_false hk
  refine aM [] Tryz.func81 rfl Tryz.ntmps81 (Nat.le_of_ble_eq_true rfl) (Nat.le_of_ble_eq_true rfl) fun w0 G0 B0 Pr hB0 => ?_
  simp only [aW,aL,List.cons_append,List.nil_append]
  repeat' (first | (with_reducible refine hY _ ?_; clear hY Y) | ((with_reducible first | refine au rfl (ay fun K' hK' => aa ?_) | refine hK' _ (ab fun Y hY => aa ?_) | refine bf rfl (ab fun Y hY => aa ?_) | refine ab fun Y hY => aa ?_ | refine ay fun K' hK' => aa ?_ | refine ac tk0 eW (ab fun Y hY => aa ?_) | refine aa ?_ | refine ax ?_); (try clear hK' K'); (try dsimp only [aop]); try simp only [go_sem,seval,eW,Tryz.results81,hok,hk']) | (with_reducible first | refine ag ?_ | refine aU rfl ?_ | refine aK ?_ | refine cN ?_ ?_ | refine am ?_ | refine aq ?_ | refine aG fun K hK => ?_ | refine aB ?_) | (with_reducible refine hK _ ?_; clear hK K) | ((with_reducible refine aJ ?_ ?_); (· decide)) | (with_reducible refine ae (h) ?_))
  all_goals simp_all
mutual
theorem uc (hF : IsC F cc p) : ∀ e,OkE e → rX F cc p e
 | .mk k n x ks,h => Eg hF k n x ks h.2.2.1 (wj ks h.2.2.2.1 (sE hF ks h.2.2.2.2))
theorem sE (hF : IsC F cc p) : ∀ l,ir l → ∀ e ∈ l,rX F cc p e
 | [],_ => fun e he => absurd he List.not_mem_nil
 | a :: l,h => gj (uc hF a h.1) (sE hF l h.2)
end
theorem yJ (hF : IsC F cc p) (l : List PE) (hl : Lg l) (h : ir l) : pq F cc p l := wj l hl (sE hF l h)
abbrev rW (F : Nat) (cc : List AV) (p : Wd → Bool) (e : PC) : Prop := AFn Tryz.prog 82 [.agg (ci e),isF F cc] [] (.c (.bool (oL p e))) []
def gV : Nat → List Nat
 | 0 => [0,1]
 | 1 => [1,2]
 | _ => []
set_option maxRecDepth 100000 in
theorem Db (e : PC) (h : rW F cc p e) : AFn Tryz.prog 163 [.agg (ci e),.rf [isF F cc] 0] [] (.c (.bool (oL p e))) [] := by
 unfold rW isF at h
 obtain ⟨k,es,ks⟩ := e
 generalize oL p (.mk k es ks) = b at *
 simp only [ci,List.cons_append,List.nil_append,isF] at h ⊢
 refine aM [] Tryz.func163 rfl Tryz.ntmps163 (Nat.le_of_ble_eq_true rfl) (Nat.le_of_ble_eq_true rfl) fun w0 G0 B0 Pr hB0 => ?_
 simp only [aW,aL,List.cons_append,List.nil_append]
 repeat' (first | (with_reducible refine hY _ ?_; clear hY Y) | ((with_reducible first | refine au rfl (ay fun K' hK' => aa ?_) | refine hK' _ (ab fun Y hY => aa ?_) | refine ac tk0 gV (ab fun Y hY => aa ?_) | refine aa ?_ | refine ax ?_); (try clear hK' K'); (try dsimp only [aop]); try simp only [go_sem,seval,gV,Tryz.results163]) | (with_reducible first | refine ag ?_ | refine am ?_ | refine aq ?_ | refine aG fun K hK => ?_ | refine aB ?_) | (with_reducible refine hK _ ?_; clear hK K) | (with_reducible refine ae (h) ?_))
def eD : Nat → List Nat
 | 0 => [0,1]
 | 1 => [2,3]
 | _ => []
set_option maxRecDepth 100000 in
set_option maxHeartbeats 4000000 in
theorem Ef (hF : IsC F cc p) (k : Int) (es : List PE) (ks : List PC) (hes : Lg es) (heo : ir es) (hks : Lg ks) (h : ∀ e ∈ ks,rW F cc p e) : rW F cc p (.mk k es ks) := by
 have h1 := yJ hF es hes heo
 have h2 := wd ks 163 [isF F cc] (oL p) rfl hks fun y hy => Db y (h y hy)
 rw [← rl] at h2
 unfold pq at h1
 unfold rW
 rw [oL]
 generalize kG p es = b1 at *
 generalize pC p ks = b2 at *
 simp only [ci,isF] at h1 h2 ⊢
 clear h
 refine aM [] Tryz.func82 rfl Tryz.ntmps82 (Nat.le_of_ble_eq_true rfl) (Nat.le_of_ble_eq_true rfl) fun w0 G0 B0 Pr hB0 => ?_
 simp only [aW,aL,List.cons_append,List.nil_append]
 repeat' (first | (with_reducible refine hY _ ?_; clear hY Y) | ((with_reducible first | refine au rfl (ay fun K' hK' => aa ?_) | refine hK' _ (ab fun Y hY => aa ?_)); (try clear hK' K'); (try dsimp only [aop]); try simp only [go_sem,seval,eD,Tryz.results82]) | (with_reducible first | refine ag ?_ | refine am ?_ | refine aG fun K hK => ?_) | ((with_reducible refine bC 1 ?_ ?_); (· rfl)) | ((with_reducible refine aS 1 tk0 eD ?_ (ab fun Y hY => aa ?_)); (· rfl); (try dsimp only [aop]); try simp only [go_sem,seval,eD,Tryz.results82]) | (with_reducible refine hK _ ?_; clear hK K))
 refine dj 10003 ⟨by decide,by decide⟩ rfl rfl (by simp only [go_sem,seval]; exact rfl) (by simp only [go_sem,seval]; exact rfl) ?_
 repeat' (first | (with_reducible refine hY _ ?_; clear hY Y) | ((with_reducible first | refine au rfl (ay fun K' hK' => aa ?_) | refine hK' _ (ab fun Y hY => aa ?_) | refine bf rfl (ab fun Y hY => aa ?_) | refine ab fun Y hY => aa ?_ | refine ay fun K' hK' => aa ?_ | refine ac tk0 eD (ab fun Y hY => aa ?_) | refine aa ?_ | refine ax ?_); (try clear hK' K'); (try dsimp only [aop]); try simp only [go_sem,seval,eD,Tryz.results82]) | (with_reducible first | refine ag ?_ | refine aU rfl ?_ | refine aK ?_ | refine cN ?_ ?_ | refine am ?_ | refine aq ?_ | refine aG fun K hK => ?_ | refine aB ?_) | (with_reducible refine hK _ ?_; clear hK K) | ((with_reducible refine aJ ?_ ?_); (· decide)) | ((with_reducible refine bP (fun hc => ?_) (fun hc => ?_)) <;> (try simp only [decide_eq_true_eq,decide_eq_false_iff_not,Bool.not_true,Bool.not_false,Bool.not_eq_true',Bool.not_eq_false'] at hc) <;> (try (exfalso; omega))) | (with_reducible refine ae (h1) ?_) | (with_reducible refine ae (h2) ?_))
 all_goals simp_all
mutual
theorem yI (hF : IsC F cc p) : ∀ e,OkC e → rW F cc p e
 | .mk k es ks,h => Ef hF k es ks h.2.1.1 h.2.1.2 h.2.2.1 (wi hF ks h.2.2.2)
theorem wi (hF : IsC F cc p) : ∀ l,l9 l → ∀ e ∈ l,rW F cc p e
 | [],_ => fun e he => absurd he List.not_mem_nil
 | a :: l,h => gj (yI hF a h.1) (wi hF l h.2)
end
abbrev tH (F : Nat) (cc : List AV) (p : Wd → Bool) (e : PA) : Prop := AFn Tryz.prog 75 [.agg (paA e),isF F cc] [] (.c (.bool (sb p e))) []
def gU : Nat → List Nat
 | 0 => [0,1]
 | 1 => [1,2]
 | _ => []
set_option maxRecDepth 100000 in
theorem Da (e : PA) (h : tH F cc p e) : AFn Tryz.prog 160 [.agg (paA e),.rf [isF F cc] 0] [] (.c (.bool (sb p e))) [] := by
 unfold tH isF at h
 generalize sb p e = b at *
 obtain ⟨ak,⟨ack,ace,acks⟩,⟨aek,aen,aex,aeks⟩,⟨avk,avn,avx,avks⟩,af,an,aks⟩ := e
 simp only [paA,ci,peA,List.cons_append,List.nil_append,isF] at h ⊢
 refine aM [] Tryz.func160 rfl Tryz.ntmps160 (Nat.le_of_ble_eq_true rfl) (Nat.le_of_ble_eq_true rfl) fun w0 G0 B0 Pr hB0 => ?_
 simp only [aW,aL,List.cons_append,List.nil_append]
 repeat' (first | (with_reducible refine hY _ ?_; clear hY Y) | ((with_reducible first | refine au rfl (ay fun K' hK' => aa ?_) | refine hK' _ (ab fun Y hY => aa ?_) | refine ac tk0 gU (ab fun Y hY => aa ?_) | refine aa ?_ | refine ax ?_); (try clear hK' K'); (try dsimp only [aop]); try simp only [go_sem,seval,gU,Tryz.results160]) | (with_reducible first | refine ag ?_ | refine am ?_ | refine aq ?_ | refine aG fun K hK => ?_ | refine aB ?_) | (with_reducible refine hK _ ?_; clear hK K) | (with_reducible refine ae (h) ?_))
def eC : Nat → List Nat
 | 0 => [0,1]
 | 1 => [2,3]
 | _ => []
set_option maxRecDepth 100000 in
set_option maxHeartbeats 4000000 in
theorem Ee (hF : IsC F cc p) (k : Int) (c : PC) (e v : PE) (f : Wd) (n : Int) (ks : List PA) (hc : OkC c) (he : OkE e) (hv : OkE v) (hks : Lg ks) (h : ∀ e ∈ ks,tH F cc p e) : tH F cc p (.mk k c e v f n ks) := by
 have h1 := yI hF c hc
 have h2 := uc hF e he
 have h3 := uc hF v hv
 have h4 := wc ks 160 [isF F cc] (sb p) rfl hks fun y hy => Da y (h y hy)
 rw [← rk] at h4
 unfold rW at h1
 unfold rX at h2 h3
 unfold tH
 rw [sb]
 clear h hc he hv
 generalize oL p c = b1 at *
 generalize ma p e = b2 at *
 generalize ma p v = b3 at *
 generalize pB p ks = b4 at *
 obtain ⟨ck,ce,cks⟩ := c
 obtain ⟨ek,en,ex,eks⟩ := e
 obtain ⟨vk,vn,vx,vks⟩ := v
 simp only [paA,ci,peA,isF,List.cons_append,List.nil_append] at h1 h2 h3 h4 ⊢
 refine aM [] Tryz.func75 rfl Tryz.ntmps75 (Nat.le_of_ble_eq_true rfl) (Nat.le_of_ble_eq_true rfl) fun w0 G0 B0 Pr hB0 => ?_
 simp only [aW,aL,List.cons_append,List.nil_append]
 repeat' (first | (with_reducible refine hY _ ?_; clear hY Y) | ((with_reducible first | refine au rfl (ay fun K' hK' => aa ?_) | refine hK' _ (ab fun Y hY => aa ?_)); (try clear hK' K'); (try dsimp only [aop]); try simp only [go_sem,seval,eC,Tryz.results75]) | (with_reducible first | refine ag ?_ | refine am ?_ | refine aG fun K hK => ?_) | ((with_reducible refine bC 1 ?_ ?_); (· rfl)) | ((with_reducible refine aS 1 tk0 eC ?_ (ab fun Y hY => aa ?_)); (· rfl); (try dsimp only [aop]); try simp only [go_sem,seval,eC,Tryz.results75]) | (with_reducible refine hK _ ?_; clear hK K))
 refine dj 10003 ⟨by decide,by decide⟩ rfl rfl (by simp only [go_sem,seval]; exact rfl) (by simp only [go_sem,seval]; exact rfl) ?_
 repeat' (first | (with_reducible refine hY _ ?_; clear hY Y) | ((with_reducible first | refine au rfl (ay fun K' hK' => aa ?_) | refine hK' _ (ab fun Y hY => aa ?_) | refine bf rfl (ab fun Y hY => aa ?_) | refine ab fun Y hY => aa ?_ | refine ay fun K' hK' => aa ?_ | refine ac tk0 eC (ab fun Y hY => aa ?_) | refine aa ?_ | refine ax ?_); (try clear hK' K'); (try dsimp only [aop]); try simp only [go_sem,seval,eC,Tryz.results75]) | (with_reducible first | refine ag ?_ | refine aU rfl ?_ | refine aK ?_ | refine cN ?_ ?_ | refine am ?_ | refine aq ?_ | refine aG fun K hK => ?_ | refine aB ?_) | (with_reducible refine hK _ ?_; clear hK K) | ((with_reducible refine aJ ?_ ?_); (· decide)) | ((with_reducible refine bP (fun hc => ?_) (fun hc => ?_)) <;> (try simp only [decide_eq_true_eq,decide_eq_false_iff_not,Bool.not_true,Bool.not_false,Bool.not_eq_true',Bool.not_eq_false'] at hc) <;> (try (exfalso; omega))) | (with_reducible refine ae (h1) ?_) | (with_reducible refine ae (h2) ?_) | (with_reducible refine ae (h3) ?_) | (with_reducible refine ae (h4) ?_))
 all_goals simp_all
mutual
theorem yH (hF : IsC F cc p) : ∀ e,OkA e → tH F cc p e
 | .mk k c e v f n ks,h => Ee hF k c e v f n ks h.2.1 h.2.2.1 h.2.2.2.1 h.2.2.2.2.2.2.1 (wh hF ks h.2.2.2.2.2.2.2)
theorem wh (hF : IsC F cc p) : ∀ l,kN l → ∀ e ∈ l,tH F cc p e
 | [],_ => fun e he => absurd he List.not_mem_nil
 | a :: l,h => gj (yH hF a h.1) (wh hF l h.2)
end
end
abbrev je (e : PA) : Prop := AFn Tryz.prog 78 [.agg (paA e)] [] (.c (.bool (!fE e))) []
def gn : Nat → List Nat
 | 0 => [0]
 | 1 => [1]
 | _ => []
set_option maxRecDepth 100000 in
theorem xp (e : PA) (h : je e) : AFn Tryz.prog 161 [.agg (paA e)] [] (.c (.bool (fE e))) [] := by
 unfold je at h
 generalize fE e = b at *
 obtain ⟨ak,⟨ack,ace,acks⟩,⟨aek,aen,aex,aeks⟩,⟨avk,avn,avx,avks⟩,af,an,aks⟩ := e
 simp only [paA,ci,peA,List.cons_append,List.nil_append] at h ⊢
 refine aM [] Tryz.func161 rfl Tryz.ntmps161 (Nat.le_of_ble_eq_true rfl) (Nat.le_of_ble_eq_true rfl) fun w0 G0 B0 Pr hB0 => ?_
 simp only [aW,aL,List.cons_append,List.nil_append]
 repeat' (first | (with_reducible refine hY _ ?_; clear hY Y) | ((with_reducible first | refine au rfl (ay fun K' hK' => aa ?_) | refine hK' _ (ab fun Y hY => aa ?_) | refine ac tk0 gn (ab fun Y hY => aa ?_) | refine aa ?_ | refine ax ?_); (try clear hK' K'); (try dsimp only [aop]); try simp only [go_sem,seval,gn,Tryz.results161]) | (with_reducible first | refine ag ?_ | refine am ?_ | refine aq ?_ | refine aG fun K hK => ?_ | refine aB ?_) | (with_reducible refine hK _ ?_; clear hK K) | (with_reducible refine ae (h) ?_))
 all_goals simp
def gJ : Nat → List Nat
 | 0 => [0]
 | 1 => [1]
 | 2 => [1,3]
 | _ => []
set_option maxRecDepth 100000 in
set_option maxHeartbeats 4000000 in
theorem zk (k : Int) (c : PC) (e v : PE) (f : Wd) (n : Int) (ks : List PA) (hks : Lg ks) (h : ∀ e ∈ ks,je e) : je (.mk k c e v f n ks) := by
 have h4 := wb ks 161 fE rfl hks fun y hy => xp y (h y hy)
 rw [← kr] at h4
 unfold je
 rw [fE]
 clear h
 generalize qp ks = b4 at *
 obtain ⟨B,hB⟩ : ∃ B,B = x6 k n := ⟨_,rfl⟩
 rw [← hB]
 unfold x6 at hB
 obtain ⟨ck,ce,cks⟩ := c
 obtain ⟨ek,en,ex,eks⟩ := e
 obtain ⟨vk,vn,vx,vks⟩ := v
 simp only [paA,ci,peA,List.cons_append,List.nil_append] at h4 ⊢
 refine aM [] Tryz.func78 rfl Tryz.ntmps78 (Nat.le_of_ble_eq_true rfl) (Nat.le_of_ble_eq_true rfl) fun w0 G0 B0 Pr hB0 => ?_
 simp only [aW,aL,List.cons_append,List.nil_append]
 repeat' (first | (with_reducible refine hY _ ?_; clear hY Y) | ((with_reducible first | refine au rfl (ay fun K' hK' => aa ?_) | refine hK' _ (ab fun Y hY => aa ?_) | refine bf rfl (ab fun Y hY => aa ?_) | refine ab fun Y hY => aa ?_ | refine ay fun K' hK' => aa ?_ | refine ac tk0 gJ (ab fun Y hY => aa ?_) | refine aa ?_ | refine ax ?_); (try clear hK' K'); (try dsimp only [aop]); try simp only [go_sem,seval,gJ,Tryz.results78]) | (with_reducible first | refine ag ?_ | refine aU rfl ?_ | refine aK ?_ | refine eN ?_ | refine cN ?_ ?_ | refine am ?_ | refine aq ?_ | refine aG fun K hK => ?_ | refine aB ?_) | (with_reducible refine hK _ ?_; clear hK K) | ((with_reducible refine aJ ?_ ?_); (· decide)) | ((with_reducible refine bP (fun hc => ?_) (fun hc => ?_)) <;> (try simp only [decide_eq_true_eq,decide_eq_false_iff_not,Bool.not_true,Bool.not_false,Bool.not_eq_true',Bool.not_eq_false'] at hc) <;> (try (exfalso; omega))) | (with_reducible refine ae (h4) ?_))
 all_goals (subst hB; clear h4; simp_all <;> (intros; omega))
mutual
theorem nB : ∀ e,OkA e → je e
 | .mk k c e v f n ks,h => zk k c e v f n ks h.2.2.2.2.2.2.1 (qy ks h.2.2.2.2.2.2.2)
theorem qy : ∀ l,kN l → ∀ e ∈ l,je e
 | [],_ => fun e he => absurd he List.not_mem_nil
 | a :: l,h => gj (nB a h.1) (qy l h.2)
end
end Go.Proofs.YtkjnkkmokojnpaaGreatDoor
