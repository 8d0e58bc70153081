/- How deep: the code's deepE, deepEs, deepC, deepA, deepS, in K (printed by gen_shl.py). -/
import Derived.Test.YtkjnkkmokojnpaaGreatDoorZ12
import Derived.Test.YtkjnkkmokojnpaaGreatDoorZ28
namespace Go.Proofs.YtkjnkkmokojnpaaGreatDoor
set_option linter.unusedSimpArgs false
set_option linter.unusedVariables false
open Go.RowKit
theorem ow {n : Nat} (h : n ≤ 100) : IntKind.i64.wrap (((n + 1 : Nat) : Int) - 1) = (n : Int) := by rw [cF (by omega) (by omega)]; omega
abbrev iV (n : Nat) (e : PE) : Prop := AFn Tryz.prog 100 [.agg (peA e),inA (n : Int)] [] (.c (.bool (eP n e))) []
abbrev jI (n : Nat) (e : PC) : Prop := AFn Tryz.prog 99 [.agg (ci e),inA (n : Int)] [] (.c (.bool (jk n e))) []
abbrev kf (n : Nat) (e : PA) : Prop := AFn Tryz.prog 40 [.agg (paA e),inA (n : Int)] [] (.c (.bool (fW n e))) []
abbrev pp (n : Nat) (l : List PS') : Prop := AFn Tryz.prog 41 [.sl (du l) l.length .none,inA (n : Int)] [] (.c (.bool (l.any (fA n)))) []
def gM : Nat → List Nat
 | 0 => [0,1]
 | 1 => [1,2]
 | _ => []
set_option maxRecDepth 100000 in
theorem yi (n : Nat) (hn : n ≤ 100) (e : PE) (h : iV n e) : AFn Tryz.prog 176 [.agg (peA e),.rf [inA ((n + 1 : Nat) : Int)] 0] [] (.c (.bool (eP n e))) [] := by
 unfold iV at h
 have hw := ow hn
 generalize eP n e = b at *
 obtain ⟨tk,tn,tx,ts⟩ := e
 simp only [peA,List.cons_append,List.nil_append] at h ⊢
 refine aM [] Tryz.func176 rfl Tryz.ntmps176 (Nat.le_of_ble_eq_true rfl) (Nat.le_of_ble_eq_true rfl) fun w0 G0 B0 Pr hB0 => ?_
 simp only [aW,aL,List.cons_append,List.nil_append]
 repeat' (first | (with_reducible refine hY _ ?_; clear hY Y) | ((with_reducible first | refine au rfl (ay fun K' hK' => aa ?_) | refine hK' _ (ab fun Y hY => aa ?_) | refine ac tk0 gM (ab fun Y hY => aa ?_) | refine aa ?_ | refine ax ?_); (try clear hK' K'); (try dsimp only [aop]); try simp only [go_sem,seval,gM,Tryz.results176,hw]) | (with_reducible first | refine ag ?_ | refine am ?_ | refine aq ?_ | refine aG fun K hK => ?_ | refine aB ?_) | (with_reducible refine hK _ ?_; clear hK K) | (with_reducible refine ae (h) ?_))
def dJ : Nat → List Nat
 | 0 => [0,1]
 | 1 => [2,3]
 | _ => []
set_option maxRecDepth 100000 in
set_option maxHeartbeats 4000000 in
theorem Ah (e : PE) : iV 0 e := by
 unfold iV
 rw [show eP 0 e = true by cases e; rfl]
 obtain ⟨tk,tn,tx,ts⟩ := e
 simp only [peA]
 refine aM [] Tryz.func100 rfl Tryz.ntmps100 (Nat.le_of_ble_eq_true rfl) (Nat.le_of_ble_eq_true rfl) fun w0 G0 B0 Pr hB0 => ?_
 simp only [aW,aL,List.cons_append,List.nil_append]
 repeat' (first | (with_reducible refine hY _ ?_; clear hY Y) | ((with_reducible first | refine au rfl (ay fun K' hK' => aa ?_) | refine hK' _ (ab fun Y hY => aa ?_) | refine bf rfl (ab fun Y hY => aa ?_) | refine ab fun Y hY => aa ?_ | refine ac tk0 dJ (ab fun Y hY => aa ?_) | refine aa ?_ | refine ax ?_); (try clear hK' K'); (try dsimp only [aop]); try simp only [go_sem,seval,dJ,Tryz.results100]) | (with_reducible first | refine ag ?_ | refine aU rfl ?_ | refine cN ?_ ?_ | refine am ?_ | refine aq ?_ | refine aG fun K hK => ?_ | refine aB ?_) | (with_reducible refine hK _ ?_; clear hK K) | ((with_reducible refine aJ ?_ ?_); (· decide)))
set_option maxRecDepth 100000 in
set_option maxHeartbeats 4000000 in
theorem Ag (n : Nat) (hn : n ≤ 100) (k m : Int) (x : Wd) (ks : List PE) (hks : Lg ks) (h : ∀ e ∈ ks,iV n e) : iV (n + 1) (.mk k m x ks) := by
 have h1 := sD ks 176 [inA ((n + 1 : Nat) : Int)] (eP n) rfl hks fun y hy => yi n hn y (h y hy)
 unfold iV
 rw [eP]
 have hn0 : (((n + 1 : Nat) : Int) < 1) = False := eq_false (by omega)
 generalize ks.any (eP n) = b at *
 generalize hN : ((n + 1 : Nat) : Int) = N at *
 simp only [peA]
 clear h hN
 refine aM [] Tryz.func100 rfl Tryz.ntmps100 (Nat.le_of_ble_eq_true rfl) (Nat.le_of_ble_eq_true rfl) fun w0 G0 B0 Pr hB0 => ?_
 simp only [aW,aL,List.cons_append,List.nil_append]
 repeat' (first | (with_reducible refine hY _ ?_; clear hY Y) | ((with_reducible first | refine au rfl (ay fun K' hK' => aa ?_) | refine hK' _ (ab fun Y hY => aa ?_)); (try clear hK' K'); (try dsimp only [aop]); try simp only [go_sem,seval,dJ,Tryz.results100]) | (with_reducible first | refine ag ?_ | refine am ?_ | refine aG fun K hK => ?_) | ((with_reducible refine bC 1 ?_ ?_); (· rfl)) | ((with_reducible refine aS 1 tk0 dJ ?_ (ab fun Y hY => aa ?_)); (· rfl); (try dsimp only [aop]); try simp only [go_sem,seval,dJ,Tryz.results100]) | (with_reducible refine hK _ ?_; clear hK K))
 refine dj 10003 ⟨by decide,by decide⟩ rfl rfl (by simp only [go_sem,seval]; exact rfl) (by simp only [go_sem,seval]; exact rfl) ?_
 repeat' (first | (with_reducible refine hY _ ?_; clear hY Y) | ((with_reducible first | refine au rfl (ay fun K' hK' => aa ?_) | refine hK' _ (ab fun Y hY => aa ?_) | refine bf rfl (ab fun Y hY => aa ?_) | refine ab fun Y hY => aa ?_ | refine ay fun K' hK' => aa ?_ | refine ac tk0 dJ (ab fun Y hY => aa ?_) | refine aa ?_ | refine ax ?_); (try clear hK' K'); (try dsimp only [aop]); try simp only [go_sem,seval,dJ,Tryz.results100,hn0]) | (with_reducible first | refine ag ?_ | refine aK ?_ | refine am ?_ | refine aq ?_ | refine aG fun K hK => ?_ | refine aB ?_) | (with_reducible refine hK _ ?_; clear hK K) | ((with_reducible refine aJ ?_ ?_); (· decide)) | (with_reducible refine ae (h1) ?_))
theorem lC : ∀ (n : Nat),n ≤ 100 → ∀ e,OkE e → iV n e
 | 0,_ => fun e _ => Ah e
 | n + 1,hn => fun | .mk k m x ks,h => Ag n (by omega) k m x ks h.2.2.2.1 fun e he => lC n (by omega) e (iR h.2.2.2.2 e he)
def gu : Nat → List Nat
 | 0 => [0,1]
 | 1 => [1,2]
 | _ => []
set_option maxRecDepth 100000 in
theorem w6 (n : Nat) (e : PE) (h : iV n e) : AFn Tryz.prog 179 [.agg (peA e),.rf [inA (n : Int)] 0] [] (.c (.bool (eP n e))) [] := by
 unfold iV at h
 generalize eP n e = b at *
 obtain ⟨tk,tn,tx,ts⟩ := e
 simp only [peA,List.cons_append,List.nil_append] at h ⊢
 refine aM [] Tryz.func179 rfl Tryz.ntmps179 (Nat.le_of_ble_eq_true rfl) (Nat.le_of_ble_eq_true rfl) fun w0 G0 B0 Pr hB0 => ?_
 simp only [aW,aL,List.cons_append,List.nil_append]
 repeat' (first | (with_reducible refine hY _ ?_; clear hY Y) | ((with_reducible first | refine au rfl (ay fun K' hK' => aa ?_) | refine hK' _ (ab fun Y hY => aa ?_) | refine ac tk0 gu (ab fun Y hY => aa ?_) | refine aa ?_ | refine ax ?_); (try clear hK' K'); (try dsimp only [aop]); try simp only [go_sem,seval,gu,Tryz.results179]) | (with_reducible first | refine ag ?_ | refine am ?_ | refine aq ?_ | refine aG fun K hK => ?_ | refine aB ?_) | (with_reducible refine hK _ ?_; clear hK K) | (with_reducible refine ae (h) ?_))
def eq : Nat → List Nat
 | 0 => [0,1]
 | 1 => [0,3]
 | _ => []
set_option maxRecDepth 100000 in
theorem pL (n : Nat) (hn : n ≤ 100) (l : List PE) (hl : Lg l) (ho : ir l) : AFn Tryz.prog 105 [.sl (cl l) l.length .none,inA (n : Int)] [] (.c (.bool (l.any (eP n)))) [] := by
 have h1 := sD l 179 [inA (n : Int)] (eP n) rfl hl fun y hy => w6 n y (lC n hn y (iR ho y hy))
 generalize l.any (eP n) = b at *
 refine aM [] Tryz.func105 rfl Tryz.ntmps105 (Nat.le_of_ble_eq_true rfl) (Nat.le_of_ble_eq_true rfl) fun w0 G0 B0 Pr hB0 => ?_
 simp only [aW,aL,List.cons_append,List.nil_append]
 repeat' (first | (with_reducible refine hY _ ?_; clear hY Y) | ((with_reducible first | refine au rfl (ay fun K' hK' => aa ?_) | refine hK' _ (ab fun Y hY => aa ?_)); (try clear hK' K'); (try dsimp only [aop]); try simp only [go_sem,seval,eq,Tryz.results105]) | (with_reducible first | refine ag ?_ | refine am ?_ | refine aG fun K hK => ?_) | ((with_reducible refine bC 1 ?_ ?_); (· rfl)) | ((with_reducible refine aS 1 tk0 eq ?_ (ab fun Y hY => aa ?_)); (· rfl); (try dsimp only [aop]); try simp only [go_sem,seval,eq,Tryz.results105]) | (with_reducible refine hK _ ?_; clear hK K))
 refine dj 10003 ⟨by decide,by decide⟩ rfl rfl (by simp only [go_sem,seval]; exact rfl) (by simp only [go_sem,seval]; exact rfl) ?_
 repeat' (first | (with_reducible refine hY _ ?_; clear hY Y) | ((with_reducible first | refine au rfl (ay fun K' hK' => aa ?_) | refine hK' _ (ab fun Y hY => aa ?_) | refine ac tk0 eq (ab fun Y hY => aa ?_) | refine aa ?_ | refine ax ?_); (try clear hK' K'); (try dsimp only [aop]); try simp only [go_sem,seval,eq,Tryz.results105]) | (with_reducible first | refine ag ?_ | refine am ?_ | refine aq ?_ | refine aG fun K hK => ?_ | refine aB ?_) | (with_reducible refine hK _ ?_; clear hK K) | (with_reducible refine ae (h1) ?_))
def gL : Nat → List Nat
 | 0 => [0,1]
 | 1 => [1,2]
 | _ => []
set_option maxRecDepth 100000 in
theorem yh (n : Nat) (hn : n ≤ 100) (e : PC) (h : jI n e) : AFn Tryz.prog 175 [.agg (ci e),.rf [inA ((n + 1 : Nat) : Int)] 0] [] (.c (.bool (jk n e))) [] := by
 unfold jI at h
 have hw := ow hn
 generalize jk n e = b at *
 obtain ⟨tk,tn,ts⟩ := e
 simp only [ci,List.cons_append,List.nil_append] at h ⊢
 refine aM [] Tryz.func175 rfl Tryz.ntmps175 (Nat.le_of_ble_eq_true rfl) (Nat.le_of_ble_eq_true rfl) fun w0 G0 B0 Pr hB0 => ?_
 simp only [aW,aL,List.cons_append,List.nil_append]
 repeat' (first | (with_reducible refine hY _ ?_; clear hY Y) | ((with_reducible first | refine au rfl (ay fun K' hK' => aa ?_) | refine hK' _ (ab fun Y hY => aa ?_) | refine ac tk0 gL (ab fun Y hY => aa ?_) | refine aa ?_ | refine ax ?_); (try clear hK' K'); (try dsimp only [aop]); try simp only [go_sem,seval,gL,Tryz.results175,hw]) | (with_reducible first | refine ag ?_ | refine am ?_ | refine aq ?_ | refine aG fun K hK => ?_ | refine aB ?_) | (with_reducible refine hK _ ?_; clear hK K) | (with_reducible refine ae (h) ?_))
def dI : Nat → List Nat
 | 0 => [0,1]
 | 1 => [2,3]
 | _ => []
set_option maxRecDepth 100000 in
set_option maxHeartbeats 4000000 in
theorem Af (e : PC) : jI 0 e := by
 unfold jI
 rw [show jk 0 e = true by cases e; rfl]
 obtain ⟨tk,tn,ts⟩ := e
 simp only [ci]
 refine aM [] Tryz.func99 rfl Tryz.ntmps99 (Nat.le_of_ble_eq_true rfl) (Nat.le_of_ble_eq_true rfl) fun w0 G0 B0 Pr hB0 => ?_
 simp only [aW,aL,List.cons_append,List.nil_append]
 repeat' (first | (with_reducible refine hY _ ?_; clear hY Y) | ((with_reducible first | refine au rfl (ay fun K' hK' => aa ?_) | refine hK' _ (ab fun Y hY => aa ?_) | refine bf rfl (ab fun Y hY => aa ?_) | refine ab fun Y hY => aa ?_ | refine ac tk0 dI (ab fun Y hY => aa ?_) | refine aa ?_ | refine ax ?_); (try clear hK' K'); (try dsimp only [aop]); try simp only [go_sem,seval,dI,Tryz.results99]) | (with_reducible first | refine ag ?_ | refine aU rfl ?_ | refine cN ?_ ?_ | refine am ?_ | refine aq ?_ | refine aG fun K hK => ?_ | refine aB ?_) | (with_reducible refine hK _ ?_; clear hK K) | ((with_reducible refine aJ ?_ ?_); (· decide)))
set_option maxRecDepth 100000 in
set_option maxHeartbeats 4000000 in
theorem Ae (n : Nat) (hn : n ≤ 100) (k : Int) (es : List PE) (ks : List PC) (hes : Lg es) (heo : ir es) (hks : Lg ks) (h : ∀ e ∈ ks,jI n e) : jI (n + 1) (.mk k es ks) := by
 have h1 := wd ks 175 [inA ((n + 1 : Nat) : Int)] (jk n) rfl hks fun y hy => yh n hn y (h y hy)
 have h2 := pL n hn es hes heo
 have hw := ow hn
 unfold jI
 rw [jk]
 have hn0 : (((n + 1 : Nat) : Int) < 1) = False := eq_false (by omega)
 generalize ks.any (jk n) = b at *
 generalize es.any (eP n) = c at *
 generalize hN : ((n + 1 : Nat) : Int) = N at *
 simp only [ci]
 clear h hN
 refine aM [] Tryz.func99 rfl Tryz.ntmps99 (Nat.le_of_ble_eq_true rfl) (Nat.le_of_ble_eq_true rfl) fun w0 G0 B0 Pr hB0 => ?_
 simp only [aW,aL,List.cons_append,List.nil_append]
 repeat' (first | (with_reducible refine hY _ ?_; clear hY Y) | ((with_reducible first | refine au rfl (ay fun K' hK' => aa ?_) | refine hK' _ (ab fun Y hY => aa ?_)); (try clear hK' K'); (try dsimp only [aop]); try simp only [go_sem,seval,dI,Tryz.results99]) | (with_reducible first | refine ag ?_ | refine am ?_ | refine aG fun K hK => ?_) | ((with_reducible refine bC 1 ?_ ?_); (· rfl)) | ((with_reducible refine aS 1 tk0 dI ?_ (ab fun Y hY => aa ?_)); (· rfl); (try dsimp only [aop]); try simp only [go_sem,seval,dI,Tryz.results99]) | (with_reducible refine hK _ ?_; clear hK K))
 refine dj 10003 ⟨by decide,by decide⟩ rfl rfl (by simp only [go_sem,seval]; exact rfl) (by simp only [go_sem,seval]; exact rfl) ?_
 repeat' (first | (with_reducible refine hY _ ?_; clear hY Y) | ((with_reducible first | refine au rfl (ay fun K' hK' => aa ?_) | refine hK' _ (ab fun Y hY => aa ?_) | refine bf rfl (ab fun Y hY => aa ?_) | refine ab fun Y hY => aa ?_ | refine ay fun K' hK' => aa ?_ | refine ac tk0 dI (ab fun Y hY => aa ?_) | refine aa ?_ | refine ax ?_); (try clear hK' K'); (try dsimp only [aop]); try simp only [go_sem,seval,dI,Tryz.results99,hn0,hw]) | (with_reducible first | refine ag ?_ | refine aU rfl ?_ | refine aK ?_ | refine cN ?_ ?_ | refine am ?_ | refine aq ?_ | refine aG fun K hK => ?_ | refine aB ?_) | (with_reducible refine hK _ ?_; clear hK K) | ((with_reducible refine aJ ?_ ?_); (· decide)) | ((with_reducible refine bP (fun hc => ?_) (fun hc => ?_)) <;> (try simp only [decide_eq_true_eq,decide_eq_false_iff_not,Bool.not_true,Bool.not_false,Bool.not_eq_true',Bool.not_eq_false'] at hc) <;> (try (exfalso; omega))) | (with_reducible refine ae (h1) ?_) | (with_reducible refine ae (h2) ?_))
 all_goals simp_all
theorem so : ∀ (n : Nat),n ≤ 100 → ∀ e,OkC e → jI n e
 | 0,_ => fun e _ => Af e
 | n + 1,hn => fun | .mk k es ks,h => Ae n (by omega) k es ks h.2.1.1 h.2.1.2 h.2.2.1 fun e he => so n (by omega) e (lh h.2.2.2 e he)
def gK : Nat → List Nat
 | 0 => [0,1]
 | 1 => [1,2]
 | _ => []
set_option maxRecDepth 100000 in
theorem yg (n : Nat) (hn : n ≤ 100) (e : PA) (h : kf n e) : AFn Tryz.prog 102 [.agg (paA e),.rf [inA ((n + 1 : Nat) : Int)] 0] [] (.c (.bool (fW n e))) [] := by
 unfold kf at h
 have hw := ow hn
 generalize fW n e = b at *
 obtain ⟨ak,⟨ack,ace,acks⟩,⟨aek,aen,aex,aeks⟩,⟨avk,avn,avx,avks⟩,af,an,aks⟩ := e
 simp only [paA,ci,peA,List.cons_append,List.nil_append] at h ⊢
 refine aM [] Tryz.func102 rfl Tryz.ntmps102 (Nat.le_of_ble_eq_true rfl) (Nat.le_of_ble_eq_true rfl) fun w0 G0 B0 Pr hB0 => ?_
 simp only [aW,aL,List.cons_append,List.nil_append]
 repeat' (first | (with_reducible refine hY _ ?_; clear hY Y) | ((with_reducible first | refine au rfl (ay fun K' hK' => aa ?_) | refine hK' _ (ab fun Y hY => aa ?_) | refine ac tk0 gK (ab fun Y hY => aa ?_) | refine aa ?_ | refine ax ?_); (try clear hK' K'); (try dsimp only [aop]); try simp only [go_sem,seval,gK,Tryz.results102,hw]) | (with_reducible first | refine ag ?_ | refine am ?_ | refine aq ?_ | refine aG fun K hK => ?_ | refine aB ?_) | (with_reducible refine hK _ ?_; clear hK K) | (with_reducible refine ae (h) ?_))
def dG : Nat → List Nat
 | 0 => [0,1]
 | 1 => [2,3]
 | _ => []
set_option maxRecDepth 100000 in
set_option maxHeartbeats 4000000 in
theorem Ad (e : PA) : kf 0 e := by
 unfold kf
 rw [show fW 0 e = true by cases e; rfl]
 obtain ⟨ak,⟨ack,ace,acks⟩,⟨aek,aen,aex,aeks⟩,⟨avk,avn,avx,avks⟩,af,an,aks⟩ := e
 simp only [paA,ci,peA,List.cons_append,List.nil_append]
 refine aM [] Tryz.func40 rfl Tryz.ntmps40 (Nat.le_of_ble_eq_true rfl) (Nat.le_of_ble_eq_true rfl) fun w0 G0 B0 Pr hB0 => ?_
 simp only [aW,aL,List.cons_append,List.nil_append]
 repeat' (first | (with_reducible refine hY _ ?_; clear hY Y) | ((with_reducible first | refine au rfl (ay fun K' hK' => aa ?_) | refine hK' _ (ab fun Y hY => aa ?_) | refine bf rfl (ab fun Y hY => aa ?_) | refine ab fun Y hY => aa ?_ | refine ac tk0 dG (ab fun Y hY => aa ?_) | refine aa ?_ | refine ax ?_); (try clear hK' K'); (try dsimp only [aop]); try simp only [go_sem,seval,dG,Tryz.results40]) | (with_reducible first | refine ag ?_ | refine aU rfl ?_ | refine cN ?_ ?_ | refine am ?_ | refine aq ?_ | refine aG fun K hK => ?_ | refine aB ?_) | (with_reducible refine hK _ ?_; clear hK K) | ((with_reducible refine aJ ?_ ?_); (· decide)))
set_option maxRecDepth 100000 in
set_option maxHeartbeats 8000000 in
theorem Ac (n : Nat) (hn : n ≤ 100) (k : Int) (c : PC) (e v : PE) (f : Wd) (m : Int) (ks : List PA) (hc : OkC c) (he : OkE e) (hv : OkE v) (hks : Lg ks) (h : ∀ e ∈ ks,kf n e) : kf (n + 1) (.mk k c e v f m ks) := by
 have h1 := wc ks 102 [inA ((n + 1 : Nat) : Int)] (fW n) rfl hks fun y hy => yg n hn y (h y hy)
 have h2 := so n hn c hc
 have h3 := lC n hn e he
 have h4 := lC n hn v hv
 have hw := ow hn
 unfold kf
 unfold jI at h2
 unfold iV at h3 h4
 rw [fW]
 have hn0 : (((n + 1 : Nat) : Int) < 1) = False := eq_false (by omega)
 generalize ks.any (fW n) = b1 at *
 generalize jk n c = b2 at *
 generalize eP n e = b3 at *
 generalize eP n v = b4 at *
 generalize hN : ((n + 1 : Nat) : Int) = N at *
 clear h hN hc he hv
 obtain ⟨ck,ce,cks⟩ := c
 obtain ⟨ek,en,ex,eks⟩ := e
 obtain ⟨vk,vn,vx,vks⟩ := v
 simp only [paA,ci,peA,List.cons_append,List.nil_append] at h2 h3 h4 ⊢
 refine aM [] Tryz.func40 rfl Tryz.ntmps40 (Nat.le_of_ble_eq_true rfl) (Nat.le_of_ble_eq_true rfl) fun w0 G0 B0 Pr hB0 => ?_
 simp only [aW,aL,List.cons_append,List.nil_append]
 repeat' (first | (with_reducible refine hY _ ?_; clear hY Y) | ((with_reducible first | refine au rfl (ay fun K' hK' => aa ?_) | refine hK' _ (ab fun Y hY => aa ?_)); (try clear hK' K'); (try dsimp only [aop]); try simp only [go_sem,seval,dG,Tryz.results40]) | (with_reducible first | refine ag ?_ | refine am ?_ | refine aG fun K hK => ?_) | ((with_reducible refine bC 1 ?_ ?_); (· rfl)) | ((with_reducible refine aS 1 tk0 dG ?_ (ab fun Y hY => aa ?_)); (· rfl); (try dsimp only [aop]); try simp only [go_sem,seval,dG,Tryz.results40]) | (with_reducible refine hK _ ?_; clear hK K))
 refine dj 10003 ⟨by decide,by decide⟩ rfl rfl (by simp only [go_sem,seval]; exact rfl) (by simp only [go_sem,seval]; exact rfl) ?_
 repeat' (first | (with_reducible refine hY _ ?_; clear hY Y) | ((with_reducible first | refine au rfl (ay fun K' hK' => aa ?_) | refine hK' _ (ab fun Y hY => aa ?_) | refine bf rfl (ab fun Y hY => aa ?_) | refine ab fun Y hY => aa ?_ | refine ay fun K' hK' => aa ?_ | refine ac tk0 dG (ab fun Y hY => aa ?_) | refine aa ?_ | refine ax ?_); (try clear hK' K'); (try dsimp only [aop]); try simp only [go_sem,seval,dG,Tryz.results40,hn0,hw]) | (with_reducible first | refine ag ?_ | refine aU rfl ?_ | refine aK ?_ | refine cN ?_ ?_ | refine am ?_ | refine aq ?_ | refine aG fun K hK => ?_ | refine aB ?_) | (with_reducible refine hK _ ?_; clear hK K) | ((with_reducible refine aJ ?_ ?_); (· decide)) | ((with_reducible refine bP (fun hc => ?_) (fun hc => ?_)) <;> (try simp only [decide_eq_true_eq,decide_eq_false_iff_not,Bool.not_true,Bool.not_false,Bool.not_eq_true',Bool.not_eq_false'] at hc) <;> (try (exfalso; omega))) | (with_reducible refine ae (h1) ?_) | (with_reducible refine ae (h2) ?_) | (with_reducible refine ae (h3) ?_) | (with_reducible refine ae (h4) ?_))
 all_goals simp_all
theorem oX : ∀ (n : Nat),n ≤ 100 → ∀ e,OkA e → kf n e
 | 0,_ => fun e _ => Ad e
 | n + 1,hn => fun | .mk k c e v f m ks,h => Ac n (by omega) k c e v f m ks h.2.1 h.2.2.1 h.2.2.2.1 h.2.2.2.2.2.2.1 fun e he => oX n (by omega) e (lf h.2.2.2.2.2.2.2 e he)
def eG : Nat → List Nat
 | 0 => [0,1]
 | 1 => [1,2]
 | _ => []
set_option maxRecDepth 100000 in
set_option maxHeartbeats 8000000 in
theorem yk (e : PS') : AFn Tryz.prog 104 [.agg (psA e),.rf [inA 0] 0] [] (.c (.bool (fA 0 e))) [] := by
 rw [show fA 0 e = true by cases e; rfl]
 obtain ⟨sk,x,y,z,⟨ek,en,ex,eks⟩,⟨vk,vn,vx,vks⟩,⟨ck,ce,cks⟩,⟨ak,⟨ack,ace,acks⟩,⟨aek,aen,aex,aeks⟩,⟨avk,avn,avx,avks⟩,af,an,aks⟩,rs,gs,fs,bd,els⟩ := e
 simp only [psA,paA,ci,peA,List.cons_append,List.nil_append]
 refine aM [] Tryz.func104 rfl Tryz.ntmps104 (Nat.le_of_ble_eq_true rfl) (Nat.le_of_ble_eq_true rfl) fun w0 G0 B0 Pr hB0 => ?_
 simp only [aW,aL,List.cons_append,List.nil_append]
 repeat' (first | (with_reducible refine hY _ ?_; clear hY Y) | ((with_reducible first | refine au rfl (ay fun K' hK' => aa ?_) | refine hK' _ (ab fun Y hY => aa ?_) | refine bf rfl (ab fun Y hY => aa ?_) | refine ab fun Y hY => aa ?_ | refine ac tk0 eG (ab fun Y hY => aa ?_) | refine aa ?_ | refine ax ?_); (try clear hK' K'); (try dsimp only [aop]); try simp only [go_sem,seval,eG,Tryz.results104]) | (with_reducible first | refine ag ?_ | refine aU rfl ?_ | refine cN ?_ ?_ | refine am ?_ | refine aq ?_ | refine aG fun K hK => ?_ | refine aB ?_) | (with_reducible refine hK _ ?_; clear hK K) | ((with_reducible refine aJ ?_ ?_); (· decide)))
set_option maxRecDepth 100000 in
set_option maxHeartbeats 16000000 in
theorem yj (n : Nat) (hn : n ≤ 100) (e : PS') (ho : OkS e) (hb : ∀ l,Lg l → gr l → pp n l) : AFn Tryz.prog 104 [.agg (psA e),.rf [inA ((n + 1 : Nat) : Int)] 0] [] (.c (.bool (fA (n + 1) e))) [] := by
 obtain ⟨sk,x,y,z,e,v,c,a,rs,gs,fs,bd,els⟩ := e
 obtain ⟨_,_,_,_,he,hv,hc,ha,⟨hrs,hro⟩,⟨hgs,hgo⟩,_,⟨hbd,hbo⟩,hel,heo⟩ := ho
 have h1 := lC n hn e he
 have h2 := lC n hn v hv
 have h3 := so n hn c hc
 have h4 := oX n hn a ha
 have h5 := pL n hn rs hrs hro
 have h6 := pL n hn gs hgs hgo
 have h7 := hb bd hbd hbo
 have h8 := hb els hel heo
 have hw := ow hn
 unfold iV at h1 h2
 unfold jI at h3
 unfold kf at h4
 unfold pp at h7 h8
 rw [fA]
 have hn0 : (((n + 1 : Nat) : Int) < 1) = False := eq_false (by omega)
 generalize eP n e = b1 at *
 generalize eP n v = b2 at *
 generalize jk n c = b3 at *
 generalize fW n a = b4 at *
 generalize rs.any (eP n) = b5 at *
 generalize gs.any (eP n) = b6 at *
 generalize bd.any (fA n) = b7 at *
 generalize els.any (fA n) = b8 at *
 generalize hN : ((n + 1 : Nat) : Int) = N at *
 clear hb hN hc he hv ha hrs hro hgs hgo hbd hbo hel heo
 obtain ⟨ek,en,ex,eks⟩ := e
 obtain ⟨vk,vn,vx,vks⟩ := v
 obtain ⟨ck,ce,cks⟩ := c
 obtain ⟨ak,⟨ack,ace,acks⟩,⟨aek,aen,aex,aeks⟩,⟨avk,avn,avx,avks⟩,af,an,aks⟩ := a
 simp only [psA,paA,ci,peA,List.cons_append,List.nil_append] at h1 h2 h3 h4 ⊢
 refine aM [] Tryz.func104 rfl Tryz.ntmps104 (Nat.le_of_ble_eq_true rfl) (Nat.le_of_ble_eq_true rfl) fun w0 G0 B0 Pr hB0 => ?_
 simp only [aW,aL,List.cons_append,List.nil_append]
 repeat' (first | (with_reducible refine hY _ ?_; clear hY Y) | ((with_reducible first | refine au rfl (ay fun K' hK' => aa ?_) | refine hK' _ (ab fun Y hY => aa ?_) | refine bf rfl (ab fun Y hY => aa ?_) | refine ab fun Y hY => aa ?_ | refine ay fun K' hK' => aa ?_ | refine ac tk0 eG (ab fun Y hY => aa ?_) | refine aa ?_ | refine ax ?_); (try clear hK' K'); (try dsimp only [aop]); try simp only [go_sem,seval,eG,Tryz.results104,hn0,hw]) | (with_reducible first | refine ag ?_ | refine aU rfl ?_ | refine aK ?_ | refine cN ?_ ?_ | refine am ?_ | refine aq ?_ | refine aG fun K hK => ?_ | refine aB ?_) | (with_reducible refine hK _ ?_; clear hK K) | ((with_reducible refine aJ ?_ ?_); (· decide)) | ((with_reducible refine bP (fun hc => ?_) (fun hc => ?_)) <;> (try simp only [decide_eq_true_eq,decide_eq_false_iff_not,Bool.not_true,Bool.not_false,Bool.not_eq_true',Bool.not_eq_false'] at hc) <;> (try (exfalso; omega))) | (with_reducible refine ae (h1) ?_) | (with_reducible refine ae (h2) ?_) | (with_reducible refine ae (h3) ?_) | (with_reducible refine ae (h4) ?_) | (with_reducible refine ae (h5) ?_) | (with_reducible refine ae (h6) ?_) | (with_reducible refine ae (h7) ?_) | (with_reducible refine ae (h8) ?_))
 all_goals simp_all
def eA : Nat → List Nat
 | 0 => [0,1]
 | 1 => [0,3]
 | _ => []
set_option maxRecDepth 100000 in
theorem tU (n : Nat) (l : List PS') (hl : Lg l) (h : ∀ e ∈ l,AFn Tryz.prog 104 [.agg (psA e),.rf [inA (n : Int)] 0] [] (.c (.bool (fA n e))) []) : pp n l := by
 have h1 := AE l 104 [inA (n : Int)] (fA n) rfl hl h
 unfold pp
 generalize l.any (fA n) = b at *
 clear h
 refine aM [] Tryz.func41 rfl Tryz.ntmps41 (Nat.le_of_ble_eq_true rfl) (Nat.le_of_ble_eq_true rfl) fun w0 G0 B0 Pr hB0 => ?_
 simp only [aW,aL,List.cons_append,List.nil_append]
 repeat' (first | (with_reducible refine hY _ ?_; clear hY Y) | ((with_reducible first | refine au rfl (ay fun K' hK' => aa ?_) | refine hK' _ (ab fun Y hY => aa ?_)); (try clear hK' K'); (try dsimp only [aop]); try simp only [go_sem,seval,eA,Tryz.results41]) | (with_reducible first | refine ag ?_ | refine am ?_ | refine aG fun K hK => ?_) | ((with_reducible refine bC 1 ?_ ?_); (· rfl)) | ((with_reducible refine aS 1 tk0 eA ?_ (ab fun Y hY => aa ?_)); (· rfl); (try dsimp only [aop]); try simp only [go_sem,seval,eA,Tryz.results41]) | (with_reducible refine hK _ ?_; clear hK K))
 refine dj 10003 ⟨by decide,by decide⟩ rfl rfl (by simp only [go_sem,seval]; exact rfl) (by simp only [go_sem,seval]; exact rfl) ?_
 repeat' (first | (with_reducible refine hY _ ?_; clear hY Y) | ((with_reducible first | refine au rfl (ay fun K' hK' => aa ?_) | refine hK' _ (ab fun Y hY => aa ?_) | refine ac tk0 eA (ab fun Y hY => aa ?_) | refine aa ?_ | refine ax ?_); (try clear hK' K'); (try dsimp only [aop]); try simp only [go_sem,seval,eA,Tryz.results41]) | (with_reducible first | refine ag ?_ | refine am ?_ | refine aq ?_ | refine aG fun K hK => ?_ | refine aB ?_) | (with_reducible refine hK _ ?_; clear hK K) | (with_reducible refine ae (h1) ?_))
theorem vV : ∀ (n : Nat),n ≤ 100 → ∀ l,Lg l → gr l → pp n l
 | 0,_ => fun l hl ho => tU 0 l hl fun e _ => yk e
 | n + 1,hn => fun l hl ho => tU (n + 1) l hl fun e he => yj n (by omega) e (fy ho e he) (vV n (by omega))
end Go.Proofs.YtkjnkkmokojnpaaGreatDoor
