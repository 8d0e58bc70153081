/- How deep: the code's deepE, deepEs, deepC, deepA, deepS, in K (printed by gen_shl.py). -/
import Derived.Test.YtkjnkkmokojnpaaGreatDoorZ24
import Derived.Test.YtkjnkkmokojnpaaGreatDoorZ26
namespace Go.Proofs.YtkjnkkmokojnpaaGreatDoor
set_option linter.unusedSimpArgs false
set_option linter.unusedVariables false
open Go.RowKit
theorem oX {n : Nat} (h : n≤100) : IntKind.i64.wrap (((n + 1 : Nat) : Int) - 1) = (n : Int):=by rw [bZ (by omega) (by omega)];omega
abbrev iY (n : Nat) (e : PE) : Prop:=AFn Tryz.prog 100 [.agg (peA e),inA (n : Int)] [] (.c (.bool (fy n e))) []
abbrev jO (n : Nat) (e : PC) : Prop:=AFn Tryz.prog 99 [.agg (bR e),inA (n : Int)] [] (.c (.bool (ju n e))) []
abbrev kx (n : Nat) (e : PA) : Prop:=AFn Tryz.prog 40 [.agg (paA e),inA (n : Int)] [] (.c (.bool (gC n e))) []
abbrev qa (n : Nat) (l : List PS') : Prop:=AFn Tryz.prog 41 [.sl (dU l) l.length .none,inA (n : Int)] [] (.c (.bool (l.any (fZ n)))) []
def hS : Nat→List Nat
 | 0=>[0,1]
 | 1=>[1,2]
 | _=>[]
set_option maxRecDepth 100000 in
theorem za (n : Nat) (hn : n≤100) (e : PE) (h : iY n e) : AFn Tryz.prog 176 [.agg (peA e),.rf [inA ((n + 1 : Nat) : Int)] 0] [] (.c (.bool (fy n e))) []:=by
 unfold iY at h
 have hw:=oX hn
 generalize fy n e = b at *
 obtain ⟨tk,tn,tx,ts⟩:=e
 simp only [peA,List.cons_append,List.nil_append] at h ⊢
 refine aC [] Tryz.func176 rfl Tryz.ntmps176 (Nat.le_of_ble_eq_true rfl) (Nat.le_of_ble_eq_true rfl) fun w0 G0 B0 Pr hB0=>?_
 simp only [aJ,aB,List.cons_append,List.nil_append]
 repeat' (first | (with_reducible refine hY _ ?_;clear hY Y) | ((with_reducible first | refine ar rfl (ay fun K' hK'=>aa ?_) | refine hK' _ (ab fun Y hY=>aa ?_) | refine ae tk0 hS (ab fun Y hY=>aa ?_) | refine aa ?_ | refine aq ?_);(try clear hK' K');(try dsimp only [aop]);try simp only [go_sem,seval,hS,Tryz.results176,hw]) | (with_reducible first | refine ag ?_ | refine aj ?_ | refine am ?_ | refine aF fun K hK=>?_ | refine aA ?_) | (with_reducible refine hK _ ?_;clear hK K) | (with_reducible refine ac (h) ?_))
def dO : Nat→List Nat
 | 0=>[0,1]
 | 1=>[2,3]
 | _=>[]
set_option maxRecDepth 100000 in
set_option maxHeartbeats 4000000 in
theorem Bq (e : PE) : iY 0 e:=by
 unfold iY
 rw [show fy 0 e = true by cases e;rfl]
 obtain ⟨tk,tn,tx,ts⟩:=e
 simp only [peA]
 refine aC [] Tryz.func100 rfl Tryz.ntmps100 (Nat.le_of_ble_eq_true rfl) (Nat.le_of_ble_eq_true rfl) fun w0 G0 B0 Pr hB0=>?_
 simp only [aJ,aB,List.cons_append,List.nil_append]
 repeat' (first | (with_reducible refine hY _ ?_;clear hY Y) | ((with_reducible first | refine ar rfl (ay fun K' hK'=>aa ?_) | refine hK' _ (ab fun Y hY=>aa ?_) | refine ba rfl (ab fun Y hY=>aa ?_) | refine ab fun Y hY=>aa ?_ | refine ae tk0 dO (ab fun Y hY=>aa ?_) | refine aa ?_ | refine aq ?_);(try clear hK' K');(try dsimp only [aop]);try simp only [go_sem,seval,dO,Tryz.results100]) | (with_reducible first | refine ag ?_ | refine aW rfl ?_ | refine dc ?_ ?_ | refine aj ?_ | refine am ?_ | refine aF fun K hK=>?_ | refine aA ?_) | (with_reducible refine hK _ ?_;clear hK K) | ((with_reducible refine aI ?_ ?_);(· decide)))
set_option maxRecDepth 100000 in
set_option maxHeartbeats 4000000 in
theorem Bp (n : Nat) (hn : n≤100) (k m : Int) (x : Wd) (ks : List PE) (hks : Lg ks) (h : ∀ e ∈ ks,iY n e) : iY (n + 1) (.mk k m x ks):=by
 have h1:=wW ks 176 [inA ((n + 1 : Nat) : Int)] (fy n) rfl hks fun y hy=>za n hn y (h y hy)
 unfold iY
 rw [fy]
 have hn0 : (((n + 1 : Nat) : Int) < 1) = False:=eq_false (by omega)
 generalize ks.any (fy n) = b at *
 generalize hN : ((n + 1 : Nat) : Int) = N at *
 simp only [peA]
 clear h hN
 refine aC [] Tryz.func100 rfl Tryz.ntmps100 (Nat.le_of_ble_eq_true rfl) (Nat.le_of_ble_eq_true rfl) fun w0 G0 B0 Pr hB0=>?_
 simp only [aJ,aB,List.cons_append,List.nil_append]
 repeat' (first | (with_reducible refine hY _ ?_;clear hY Y) | ((with_reducible first | refine ar rfl (ay fun K' hK'=>aa ?_) | refine hK' _ (ab fun Y hY=>aa ?_));(try clear hK' K');(try dsimp only [aop]);try simp only [go_sem,seval,dO,Tryz.results100]) | (with_reducible first | refine ag ?_ | refine aj ?_ | refine aF fun K hK=>?_) | ((with_reducible refine cD 1 ?_ ?_);(· rfl)) | ((with_reducible refine bu 1 tk0 dO ?_ (ab fun Y hY=>aa ?_));(· rfl);(try dsimp only [aop]);try simp only [go_sem,seval,dO,Tryz.results100]) | (with_reducible refine hK _ ?_;clear hK K))
 refine dH 10003 ⟨by decide,by decide⟩ rfl rfl (by simp only [go_sem,seval];exact rfl) (by simp only [go_sem,seval];exact rfl) ?_
 repeat' (first | (with_reducible refine hY _ ?_;clear hY Y) | ((with_reducible first | refine ar rfl (ay fun K' hK'=>aa ?_) | refine hK' _ (ab fun Y hY=>aa ?_) | refine ba rfl (ab fun Y hY=>aa ?_) | refine ab fun Y hY=>aa ?_ | refine ay fun K' hK'=>aa ?_ | refine ae tk0 dO (ab fun Y hY=>aa ?_) | refine aa ?_ | refine aq ?_);(try clear hK' K');(try dsimp only [aop]);try simp only [go_sem,seval,dO,Tryz.results100,hn0]) | (with_reducible first | refine ag ?_ | refine aK ?_ | refine aj ?_ | refine am ?_ | refine aF fun K hK=>?_ | refine aA ?_) | (with_reducible refine hK _ ?_;clear hK K) | ((with_reducible refine aI ?_ ?_);(· decide)) | (with_reducible refine ac (h1) ?_))
theorem lY : ∀ (n : Nat),n≤100→∀ e,OkE e→iY n e
 | 0,_=>fun e _=>Bq e
 | n + 1,hn=>fun | .mk k m x ks,h=>Bp n (by omega) k m x ks h.2.2.2.1 fun e he=>lY n (by omega) e (iU h.2.2.2.2 e he)
def gU : Nat→List Nat
 | 0=>[0,1]
 | 1=>[1,2]
 | _=>[]
set_option maxRecDepth 100000 in
theorem xS (n : Nat) (e : PE) (h : iY n e) : AFn Tryz.prog 179 [.agg (peA e),.rf [inA (n : Int)] 0] [] (.c (.bool (fy n e))) []:=by
 unfold iY at h
 generalize fy n e = b at *
 obtain ⟨tk,tn,tx,ts⟩:=e
 simp only [peA,List.cons_append,List.nil_append] at h ⊢
 refine aC [] Tryz.func179 rfl Tryz.ntmps179 (Nat.le_of_ble_eq_true rfl) (Nat.le_of_ble_eq_true rfl) fun w0 G0 B0 Pr hB0=>?_
 simp only [aJ,aB,List.cons_append,List.nil_append]
 repeat' (first | (with_reducible refine hY _ ?_;clear hY Y) | ((with_reducible first | refine ar rfl (ay fun K' hK'=>aa ?_) | refine hK' _ (ab fun Y hY=>aa ?_) | refine ae tk0 gU (ab fun Y hY=>aa ?_) | refine aa ?_ | refine aq ?_);(try clear hK' K');(try dsimp only [aop]);try simp only [go_sem,seval,gU,Tryz.results179]) | (with_reducible first | refine ag ?_ | refine aj ?_ | refine am ?_ | refine aF fun K hK=>?_ | refine aA ?_) | (with_reducible refine hK _ ?_;clear hK K) | (with_reducible refine ac (h) ?_))
def eI : Nat→List Nat
 | 0=>[0,1]
 | 1=>[0,3]
 | _=>[]
set_option maxRecDepth 100000 in
theorem qu (n : Nat) (hn : n≤100) (l : List PE) (hl : Lg l) (ho : jY l) : AFn Tryz.prog 105 [.sl (bY l) l.length .none,inA (n : Int)] [] (.c (.bool (l.any (fy n)))) []:=by
 have h1:=wW l 179 [inA (n : Int)] (fy n) rfl hl fun y hy=>xS n y (lY n hn y (iU ho y hy))
 generalize l.any (fy n) = b at *
 refine aC [] Tryz.func105 rfl Tryz.ntmps105 (Nat.le_of_ble_eq_true rfl) (Nat.le_of_ble_eq_true rfl) fun w0 G0 B0 Pr hB0=>?_
 simp only [aJ,aB,List.cons_append,List.nil_append]
 repeat' (first | (with_reducible refine hY _ ?_;clear hY Y) | ((with_reducible first | refine ar rfl (ay fun K' hK'=>aa ?_) | refine hK' _ (ab fun Y hY=>aa ?_));(try clear hK' K');(try dsimp only [aop]);try simp only [go_sem,seval,eI,Tryz.results105]) | (with_reducible first | refine ag ?_ | refine aj ?_ | refine aF fun K hK=>?_) | ((with_reducible refine cD 1 ?_ ?_);(· rfl)) | ((with_reducible refine bu 1 tk0 eI ?_ (ab fun Y hY=>aa ?_));(· rfl);(try dsimp only [aop]);try simp only [go_sem,seval,eI,Tryz.results105]) | (with_reducible refine hK _ ?_;clear hK K))
 refine dH 10003 ⟨by decide,by decide⟩ rfl rfl (by simp only [go_sem,seval];exact rfl) (by simp only [go_sem,seval];exact rfl) ?_
 repeat' (first | (with_reducible refine hY _ ?_;clear hY Y) | ((with_reducible first | refine ar rfl (ay fun K' hK'=>aa ?_) | refine hK' _ (ab fun Y hY=>aa ?_) | refine ae tk0 eI (ab fun Y hY=>aa ?_) | refine aa ?_ | refine aq ?_);(try clear hK' K');(try dsimp only [aop]);try simp only [go_sem,seval,eI,Tryz.results105]) | (with_reducible first | refine ag ?_ | refine aj ?_ | refine am ?_ | refine aF fun K hK=>?_ | refine aA ?_) | (with_reducible refine hK _ ?_;clear hK K) | (with_reducible refine ac (h1) ?_))
def hJ : Nat→List Nat
 | 0=>[0,1]
 | 1=>[1,2]
 | _=>[]
set_option maxRecDepth 100000 in
theorem yZ (n : Nat) (hn : n≤100) (e : PC) (h : jO n e) : AFn Tryz.prog 175 [.agg (bR e),.rf [inA ((n + 1 : Nat) : Int)] 0] [] (.c (.bool (ju n e))) []:=by
 unfold jO at h
 have hw:=oX hn
 generalize ju n e = b at *
 obtain ⟨tk,tn,ts⟩:=e
 simp only [bR,List.cons_append,List.nil_append] at h ⊢
 refine aC [] Tryz.func175 rfl Tryz.ntmps175 (Nat.le_of_ble_eq_true rfl) (Nat.le_of_ble_eq_true rfl) fun w0 G0 B0 Pr hB0=>?_
 simp only [aJ,aB,List.cons_append,List.nil_append]
 repeat' (first | (with_reducible refine hY _ ?_;clear hY Y) | ((with_reducible first | refine ar rfl (ay fun K' hK'=>aa ?_) | refine hK' _ (ab fun Y hY=>aa ?_) | refine ae tk0 hJ (ab fun Y hY=>aa ?_) | refine aa ?_ | refine aq ?_);(try clear hK' K');(try dsimp only [aop]);try simp only [go_sem,seval,hJ,Tryz.results175,hw]) | (with_reducible first | refine ag ?_ | refine aj ?_ | refine am ?_ | refine aF fun K hK=>?_ | refine aA ?_) | (with_reducible refine hK _ ?_;clear hK K) | (with_reducible refine ac (h) ?_))
def dN : Nat→List Nat
 | 0=>[0,1]
 | 1=>[2,3]
 | _=>[]
set_option maxRecDepth 100000 in
set_option maxHeartbeats 4000000 in
theorem Bo (e : PC) : jO 0 e:=by
 unfold jO
 rw [show ju 0 e = true by cases e;rfl]
 obtain ⟨tk,tn,ts⟩:=e
 simp only [bR]
 refine aC [] Tryz.func99 rfl Tryz.ntmps99 (Nat.le_of_ble_eq_true rfl) (Nat.le_of_ble_eq_true rfl) fun w0 G0 B0 Pr hB0=>?_
 simp only [aJ,aB,List.cons_append,List.nil_append]
 repeat' (first | (with_reducible refine hY _ ?_;clear hY Y) | ((with_reducible first | refine ar rfl (ay fun K' hK'=>aa ?_) | refine hK' _ (ab fun Y hY=>aa ?_) | refine ba rfl (ab fun Y hY=>aa ?_) | refine ab fun Y hY=>aa ?_ | refine ae tk0 dN (ab fun Y hY=>aa ?_) | refine aa ?_ | refine aq ?_);(try clear hK' K');(try dsimp only [aop]);try simp only [go_sem,seval,dN,Tryz.results99]) | (with_reducible first | refine ag ?_ | refine aW rfl ?_ | refine dc ?_ ?_ | refine aj ?_ | refine am ?_ | refine aF fun K hK=>?_ | refine aA ?_) | (with_reducible refine hK _ ?_;clear hK K) | ((with_reducible refine aI ?_ ?_);(· decide)))
set_option maxRecDepth 100000 in
set_option maxHeartbeats 4000000 in
theorem Bn (n : Nat) (hn : n≤100) (k : Int) (es : List PE) (ks : List PC) (hes : Lg es) (heo : jY es) (hks : Lg ks) (h : ∀ e ∈ ks,jO n e) : jO (n + 1) (.mk k es ks):=by
 have h1:=BB ks 175 [inA ((n + 1 : Nat) : Int)] (ju n) rfl hks fun y hy=>yZ n hn y (h y hy)
 have h2:=qu n hn es hes heo
 have hw:=oX hn
 unfold jO
 rw [ju]
 have hn0 : (((n + 1 : Nat) : Int) < 1) = False:=eq_false (by omega)
 generalize ks.any (ju n) = b at *
 generalize es.any (fy n) = c at *
 generalize hN : ((n + 1 : Nat) : Int) = N at *
 simp only [bR]
 clear h hN
 refine aC [] Tryz.func99 rfl Tryz.ntmps99 (Nat.le_of_ble_eq_true rfl) (Nat.le_of_ble_eq_true rfl) fun w0 G0 B0 Pr hB0=>?_
 simp only [aJ,aB,List.cons_append,List.nil_append]
 repeat' (first | (with_reducible refine hY _ ?_;clear hY Y) | ((with_reducible first | refine ar rfl (ay fun K' hK'=>aa ?_) | refine hK' _ (ab fun Y hY=>aa ?_));(try clear hK' K');(try dsimp only [aop]);try simp only [go_sem,seval,dN,Tryz.results99]) | (with_reducible first | refine ag ?_ | refine aj ?_ | refine aF fun K hK=>?_) | ((with_reducible refine cD 1 ?_ ?_);(· rfl)) | ((with_reducible refine bu 1 tk0 dN ?_ (ab fun Y hY=>aa ?_));(· rfl);(try dsimp only [aop]);try simp only [go_sem,seval,dN,Tryz.results99]) | (with_reducible refine hK _ ?_;clear hK K))
 refine dH 10003 ⟨by decide,by decide⟩ rfl rfl (by simp only [go_sem,seval];exact rfl) (by simp only [go_sem,seval];exact rfl) ?_
 repeat' (first | (with_reducible refine hY _ ?_;clear hY Y) | ((with_reducible first | refine ar rfl (ay fun K' hK'=>aa ?_) | refine hK' _ (ab fun Y hY=>aa ?_) | refine ba rfl (ab fun Y hY=>aa ?_) | refine ab fun Y hY=>aa ?_ | refine ay fun K' hK'=>aa ?_ | refine ae tk0 dN (ab fun Y hY=>aa ?_) | refine aa ?_ | refine aq ?_);(try clear hK' K');(try dsimp only [aop]);try simp only [go_sem,seval,dN,Tryz.results99,hn0,hw]) | (with_reducible first | refine ag ?_ | refine aW rfl ?_ | refine aK ?_ | refine dc ?_ ?_ | refine aj ?_ | refine am ?_ | refine aF fun K hK=>?_ | refine aA ?_) | (with_reducible refine hK _ ?_;clear hK K) | ((with_reducible refine aI ?_ ?_);(· decide)) | ((with_reducible refine ci (fun hc=>?_) (fun hc=>?_)) <;> (try simp only [decide_eq_true_eq,decide_eq_false_iff_not,Bool.not_true,Bool.not_false,Bool.not_eq_true',Bool.not_eq_false'] at hc) <;> (try (exfalso;omega))) | (with_reducible refine ac (h1) ?_) | (with_reducible refine ac (h2) ?_))
 all_goals simp_all
theorem tm : ∀ (n : Nat),n≤100→∀ e,OkC e→jO n e
 | 0,_=>fun e _=>Bo e
 | n + 1,hn=>fun | .mk k es ks,h=>Bn n (by omega) k es ks h.2.1.1 h.2.1.2 h.2.2.1 fun e he=>tm n (by omega) e (nR h.2.2.2 e he)
def hI : Nat→List Nat
 | 0=>[0,1]
 | 1=>[1,2]
 | _=>[]
set_option maxRecDepth 100000 in
theorem yY (n : Nat) (hn : n≤100) (e : PA) (h : kx n e) : AFn Tryz.prog 102 [.agg (paA e),.rf [inA ((n + 1 : Nat) : Int)] 0] [] (.c (.bool (gC n e))) []:=by
 unfold kx at h
 have hw:=oX hn
 generalize gC n e = b at *
 obtain ⟨ak,⟨ack,ace,acks⟩,⟨aek,aen,aex,aeks⟩,⟨avk,avn,avx,avks⟩,af,an,aks⟩:=e
 simp only [paA,bR,peA,List.cons_append,List.nil_append] at h ⊢
 refine aC [] Tryz.func102 rfl Tryz.ntmps102 (Nat.le_of_ble_eq_true rfl) (Nat.le_of_ble_eq_true rfl) fun w0 G0 B0 Pr hB0=>?_
 simp only [aJ,aB,List.cons_append,List.nil_append]
 repeat' (first | (with_reducible refine hY _ ?_;clear hY Y) | ((with_reducible first | refine ar rfl (ay fun K' hK'=>aa ?_) | refine hK' _ (ab fun Y hY=>aa ?_) | refine ae tk0 hI (ab fun Y hY=>aa ?_) | refine aa ?_ | refine aq ?_);(try clear hK' K');(try dsimp only [aop]);try simp only [go_sem,seval,hI,Tryz.results102,hw]) | (with_reducible first | refine ag ?_ | refine aj ?_ | refine am ?_ | refine aF fun K hK=>?_ | refine aA ?_) | (with_reducible refine hK _ ?_;clear hK K) | (with_reducible refine ac (h) ?_))
def dM : Nat→List Nat
 | 0=>[0,1]
 | 1=>[2,3]
 | _=>[]
set_option maxRecDepth 100000 in
set_option maxHeartbeats 4000000 in
theorem Bm (e : PA) : kx 0 e:=by
 unfold kx
 rw [show gC 0 e = true by cases e;rfl]
 obtain ⟨ak,⟨ack,ace,acks⟩,⟨aek,aen,aex,aeks⟩,⟨avk,avn,avx,avks⟩,af,an,aks⟩:=e
 simp only [paA,bR,peA,List.cons_append,List.nil_append]
 refine aC [] Tryz.func40 rfl Tryz.ntmps40 (Nat.le_of_ble_eq_true rfl) (Nat.le_of_ble_eq_true rfl) fun w0 G0 B0 Pr hB0=>?_
 simp only [aJ,aB,List.cons_append,List.nil_append]
 repeat' (first | (with_reducible refine hY _ ?_;clear hY Y) | ((with_reducible first | refine ar rfl (ay fun K' hK'=>aa ?_) | refine hK' _ (ab fun Y hY=>aa ?_) | refine ba rfl (ab fun Y hY=>aa ?_) | refine ab fun Y hY=>aa ?_ | refine ae tk0 dM (ab fun Y hY=>aa ?_) | refine aa ?_ | refine aq ?_);(try clear hK' K');(try dsimp only [aop]);try simp only [go_sem,seval,dM,Tryz.results40]) | (with_reducible first | refine ag ?_ | refine aW rfl ?_ | refine dc ?_ ?_ | refine aj ?_ | refine am ?_ | refine aF fun K hK=>?_ | refine aA ?_) | (with_reducible refine hK _ ?_;clear hK K) | ((with_reducible refine aI ?_ ?_);(· decide)))
set_option maxRecDepth 100000 in
set_option maxHeartbeats 8000000 in
theorem Bl (n : Nat) (hn : n≤100) (k : Int) (c : PC) (e v : PE) (f : Wd) (m : Int) (ks : List PA) (hc : OkC c) (he : OkE e) (hv : OkE v) (hks : Lg ks) (h : ∀ e ∈ ks,kx n e) : kx (n + 1) (.mk k c e v f m ks):=by
 have h1:=By ks 102 [inA ((n + 1 : Nat) : Int)] (gC n) rfl hks fun y hy=>yY n hn y (h y hy)
 have h2:=tm n hn c hc
 have h3:=lY n hn e he
 have h4:=lY n hn v hv
 have hw:=oX hn
 unfold kx
 unfold jO at h2
 unfold iY at h3 h4
 rw [gC]
 have hn0 : (((n + 1 : Nat) : Int) < 1) = False:=eq_false (by omega)
 generalize ks.any (gC n) = b1 at *
 generalize ju n c = b2 at *
 generalize fy n e = b3 at *
 generalize fy n v = b4 at *
 generalize hN : ((n + 1 : Nat) : Int) = N at *
 clear h hN hc he hv
 obtain ⟨ck,ce,cks⟩:=c
 obtain ⟨ek,en,ex,eks⟩:=e
 obtain ⟨vk,vn,vx,vks⟩:=v
 simp only [paA,bR,peA,List.cons_append,List.nil_append] at h2 h3 h4 ⊢
 refine aC [] Tryz.func40 rfl Tryz.ntmps40 (Nat.le_of_ble_eq_true rfl) (Nat.le_of_ble_eq_true rfl) fun w0 G0 B0 Pr hB0=>?_
 simp only [aJ,aB,List.cons_append,List.nil_append]
 repeat' (first | (with_reducible refine hY _ ?_;clear hY Y) | ((with_reducible first | refine ar rfl (ay fun K' hK'=>aa ?_) | refine hK' _ (ab fun Y hY=>aa ?_));(try clear hK' K');(try dsimp only [aop]);try simp only [go_sem,seval,dM,Tryz.results40]) | (with_reducible first | refine ag ?_ | refine aj ?_ | refine aF fun K hK=>?_) | ((with_reducible refine cD 1 ?_ ?_);(· rfl)) | ((with_reducible refine bu 1 tk0 dM ?_ (ab fun Y hY=>aa ?_));(· rfl);(try dsimp only [aop]);try simp only [go_sem,seval,dM,Tryz.results40]) | (with_reducible refine hK _ ?_;clear hK K))
 refine dH 10003 ⟨by decide,by decide⟩ rfl rfl (by simp only [go_sem,seval];exact rfl) (by simp only [go_sem,seval];exact rfl) ?_
 repeat' (first | (with_reducible refine hY _ ?_;clear hY Y) | ((with_reducible first | refine ar rfl (ay fun K' hK'=>aa ?_) | refine hK' _ (ab fun Y hY=>aa ?_) | refine ba rfl (ab fun Y hY=>aa ?_) | refine ab fun Y hY=>aa ?_ | refine ay fun K' hK'=>aa ?_ | refine ae tk0 dM (ab fun Y hY=>aa ?_) | refine aa ?_ | refine aq ?_);(try clear hK' K');(try dsimp only [aop]);try simp only [go_sem,seval,dM,Tryz.results40,hn0,hw]) | (with_reducible first | refine ag ?_ | refine aW rfl ?_ | refine aK ?_ | refine dc ?_ ?_ | refine aj ?_ | refine am ?_ | refine aF fun K hK=>?_ | refine aA ?_) | (with_reducible refine hK _ ?_;clear hK K) | ((with_reducible refine aI ?_ ?_);(· decide)) | ((with_reducible refine ci (fun hc=>?_) (fun hc=>?_)) <;> (try simp only [decide_eq_true_eq,decide_eq_false_iff_not,Bool.not_true,Bool.not_false,Bool.not_eq_true',Bool.not_eq_false'] at hc) <;> (try (exfalso;omega))) | (with_reducible refine ac (h1) ?_) | (with_reducible refine ac (h2) ?_) | (with_reducible refine ac (h3) ?_) | (with_reducible refine ac (h4) ?_))
 all_goals simp_all
theorem pG : ∀ (n : Nat),n≤100→∀ e,OkA e→kx n e
 | 0,_=>fun e _=>Bm e
 | n + 1,hn=>fun | .mk k c e v f m ks,h=>Bl n (by omega) k c e v f m ks h.2.1 h.2.2.1 h.2.2.2.1 h.2.2.2.2.2.2.1 fun e he=>pG n (by omega) e (nO h.2.2.2.2.2.2.2 e he)
def eX : Nat→List Nat
 | 0=>[0,1]
 | 1=>[1,2]
 | _=>[]
set_option maxRecDepth 100000 in
set_option maxHeartbeats 8000000 in
theorem zc (e : PS') : AFn Tryz.prog 104 [.agg (psA e),.rf [inA 0] 0] [] (.c (.bool (fZ 0 e))) []:=by
 rw [show fZ 0 e = true by cases e;rfl]
 obtain ⟨sk,x,y,z,⟨ek,en,ex,eks⟩,⟨vk,vn,vx,vks⟩,⟨ck,ce,cks⟩,⟨ak,⟨ack,ace,acks⟩,⟨aek,aen,aex,aeks⟩,⟨avk,avn,avx,avks⟩,af,an,aks⟩,rs,gs,fs,bd,els⟩:=e
 simp only [psA,paA,bR,peA,List.cons_append,List.nil_append]
 refine aC [] Tryz.func104 rfl Tryz.ntmps104 (Nat.le_of_ble_eq_true rfl) (Nat.le_of_ble_eq_true rfl) fun w0 G0 B0 Pr hB0=>?_
 simp only [aJ,aB,List.cons_append,List.nil_append]
 repeat' (first | (with_reducible refine hY _ ?_;clear hY Y) | ((with_reducible first | refine ar rfl (ay fun K' hK'=>aa ?_) | refine hK' _ (ab fun Y hY=>aa ?_) | refine ba rfl (ab fun Y hY=>aa ?_) | refine ab fun Y hY=>aa ?_ | refine ae tk0 eX (ab fun Y hY=>aa ?_) | refine aa ?_ | refine aq ?_);(try clear hK' K');(try dsimp only [aop]);try simp only [go_sem,seval,eX,Tryz.results104]) | (with_reducible first | refine ag ?_ | refine aW rfl ?_ | refine dc ?_ ?_ | refine aj ?_ | refine am ?_ | refine aF fun K hK=>?_ | refine aA ?_) | (with_reducible refine hK _ ?_;clear hK K) | ((with_reducible refine aI ?_ ?_);(· decide)))
set_option maxRecDepth 100000 in
set_option maxHeartbeats 16000000 in
theorem zb (n : Nat) (hn : n≤100) (e : PS') (ho : OkS e) (hb : ∀ l,Lg l→jB l→qa n l) : AFn Tryz.prog 104 [.agg (psA e),.rf [inA ((n + 1 : Nat) : Int)] 0] [] (.c (.bool (fZ (n + 1) e))) []:=by
 obtain ⟨sk,x,y,z,e,v,c,a,rs,gs,fs,bd,els⟩:=e
 obtain ⟨_,_,_,_,he,hv,hc,ha,⟨hrs,hro⟩,⟨hgs,hgo⟩,_,⟨hbd,hbo⟩,hel,heo⟩:=ho
 have h1:=lY n hn e he
 have h2:=lY n hn v hv
 have h3:=tm n hn c hc
 have h4:=pG n hn a ha
 have h5:=qu n hn rs hrs hro
 have h6:=qu n hn gs hgs hgo
 have h7:=hb bd hbd hbo
 have h8:=hb els hel heo
 have hw:=oX hn
 unfold iY at h1 h2
 unfold jO at h3
 unfold kx at h4
 unfold qa at h7 h8
 rw [fZ]
 have hn0 : (((n + 1 : Nat) : Int) < 1) = False:=eq_false (by omega)
 generalize fy n e = b1 at *
 generalize fy n v = b2 at *
 generalize ju n c = b3 at *
 generalize gC n a = b4 at *
 generalize rs.any (fy n) = b5 at *
 generalize gs.any (fy n) = b6 at *
 generalize bd.any (fZ n) = b7 at *
 generalize els.any (fZ n) = b8 at *
 generalize hN : ((n + 1 : Nat) : Int) = N at *
 clear hb hN hc he hv ha hrs hro hgs hgo hbd hbo hel heo
 obtain ⟨ek,en,ex,eks⟩:=e
 obtain ⟨vk,vn,vx,vks⟩:=v
 obtain ⟨ck,ce,cks⟩:=c
 obtain ⟨ak,⟨ack,ace,acks⟩,⟨aek,aen,aex,aeks⟩,⟨avk,avn,avx,avks⟩,af,an,aks⟩:=a
 simp only [psA,paA,bR,peA,List.cons_append,List.nil_append] at h1 h2 h3 h4 ⊢
 refine aC [] Tryz.func104 rfl Tryz.ntmps104 (Nat.le_of_ble_eq_true rfl) (Nat.le_of_ble_eq_true rfl) fun w0 G0 B0 Pr hB0=>?_
 simp only [aJ,aB,List.cons_append,List.nil_append]
 repeat' (first | (with_reducible refine hY _ ?_;clear hY Y) | ((with_reducible first | refine ar rfl (ay fun K' hK'=>aa ?_) | refine hK' _ (ab fun Y hY=>aa ?_) | refine ba rfl (ab fun Y hY=>aa ?_) | refine ab fun Y hY=>aa ?_ | refine ay fun K' hK'=>aa ?_ | refine ae tk0 eX (ab fun Y hY=>aa ?_) | refine aa ?_ | refine aq ?_);(try clear hK' K');(try dsimp only [aop]);try simp only [go_sem,seval,eX,Tryz.results104,hn0,hw]) | (with_reducible first | refine ag ?_ | refine aW rfl ?_ | refine aK ?_ | refine dc ?_ ?_ | refine aj ?_ | refine am ?_ | refine aF fun K hK=>?_ | refine aA ?_) | (with_reducible refine hK _ ?_;clear hK K) | ((with_reducible refine aI ?_ ?_);(· decide)) | ((with_reducible refine ci (fun hc=>?_) (fun hc=>?_)) <;> (try simp only [decide_eq_true_eq,decide_eq_false_iff_not,Bool.not_true,Bool.not_false,Bool.not_eq_true',Bool.not_eq_false'] at hc) <;> (try (exfalso;omega))) | (with_reducible refine ac (h1) ?_) | (with_reducible refine ac (h2) ?_) | (with_reducible refine ac (h3) ?_) | (with_reducible refine ac (h4) ?_) | (with_reducible refine ac (h5) ?_) | (with_reducible refine ac (h6) ?_) | (with_reducible refine ac (h7) ?_) | (with_reducible refine ac (h8) ?_))
 all_goals simp_all
def eK : Nat→List Nat
 | 0=>[0,1]
 | 1=>[0,3]
 | _=>[]
set_option maxRecDepth 100000 in
theorem ux (n : Nat) (l : List PS') (hl : Lg l) (h : ∀ e ∈ l,AFn Tryz.prog 104 [.agg (psA e),.rf [inA (n : Int)] 0] [] (.c (.bool (fZ n e))) []) : qa n l:=by
 have h1:=BF l 104 [inA (n : Int)] (fZ n) rfl hl h
 unfold qa
 generalize l.any (fZ n) = b at *
 clear h
 refine aC [] Tryz.func41 rfl Tryz.ntmps41 (Nat.le_of_ble_eq_true rfl) (Nat.le_of_ble_eq_true rfl) fun w0 G0 B0 Pr hB0=>?_
 simp only [aJ,aB,List.cons_append,List.nil_append]
 repeat' (first | (with_reducible refine hY _ ?_;clear hY Y) | ((with_reducible first | refine ar rfl (ay fun K' hK'=>aa ?_) | refine hK' _ (ab fun Y hY=>aa ?_));(try clear hK' K');(try dsimp only [aop]);try simp only [go_sem,seval,eK,Tryz.results41]) | (with_reducible first | refine ag ?_ | refine aj ?_ | refine aF fun K hK=>?_) | ((with_reducible refine cD 1 ?_ ?_);(· rfl)) | ((with_reducible refine bu 1 tk0 eK ?_ (ab fun Y hY=>aa ?_));(· rfl);(try dsimp only [aop]);try simp only [go_sem,seval,eK,Tryz.results41]) | (with_reducible refine hK _ ?_;clear hK K))
 refine dH 10003 ⟨by decide,by decide⟩ rfl rfl (by simp only [go_sem,seval];exact rfl) (by simp only [go_sem,seval];exact rfl) ?_
 repeat' (first | (with_reducible refine hY _ ?_;clear hY Y) | ((with_reducible first | refine ar rfl (ay fun K' hK'=>aa ?_) | refine hK' _ (ab fun Y hY=>aa ?_) | refine ae tk0 eK (ab fun Y hY=>aa ?_) | refine aa ?_ | refine aq ?_);(try clear hK' K');(try dsimp only [aop]);try simp only [go_sem,seval,eK,Tryz.results41]) | (with_reducible first | refine ag ?_ | refine aj ?_ | refine am ?_ | refine aF fun K hK=>?_ | refine aA ?_) | (with_reducible refine hK _ ?_;clear hK K) | (with_reducible refine ac (h1) ?_))
theorem wM : ∀ (n : Nat),n≤100→∀ l,Lg l→jB l→qa n l
 | 0,_=>fun l hl ho=>ux 0 l hl fun e _=>zc e
 | n + 1,hn=>fun l hl ho=>ux (n + 1) l hl fun e he=>zb n (by omega) e (kl ho e he) (wM n (by omega))
end Go.Proofs.YtkjnkkmokojnpaaGreatDoor
