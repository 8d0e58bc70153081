/- How many parts programs have, in K: statements, programs. -/
import Derived.Test.YtkjnkkmokojnpaaGreatDoorZ8
import Derived.Test.YtkjnkkmokojnpaaGreatDoorZ4
namespace Go.Proofs.YtkjnkkmokojnpaaGreatDoor
set_option linter.unusedSimpArgs false
set_option linter.unusedVariables false
open Go.RowKit
def aG : Nat→List Nat
 | 0=>[0,1,2]
 | 1=>[0,1,2]
 | 2=>[]
 | 3=>[0,1,2]
 | 4=>[0,1,2,7]
 | 5=>[0,1,2,7]
 | 6=>[0,1,2,7]
 | 7=>[0,1,2,7,8]
 | 8=>[0,1,2,7,8]
 | 9=>[0,1,2,7,8]
 | 10=>[0,1,2,7,8]
 | 11=>[0,1,2,7,8]
 | 12=>[0,1,2,7,8]
 | 13=>[0,1,2,7,8]
 | 14=>[0,1,2,7,8]
 | 15=>[0,1,2,7,8]
 | 16=>[0,1,2,7,8]
 | 17=>[0,1,2,7,8]
 | 18=>[0,1,2,7,8]
 | 19=>[0,1,2,7,8]
 | 20=>[0,1,2,7,8]
 | 21=>[]
 | 22=>[1]
 | _=>[]
set_option maxRecDepth 100000 in
set_option maxHeartbeats 16000000 in
theorem Cs (d : Nat) (hd : d≤1000) (h : ∀ (l : List PS') (left : Int),Lg l→jB l→gw left→AFn Tryz.prog 63 [.sl (dU l) l.length .none,inA left,inA (d : Int)] [] (inA (szS d l left)) []) (l : List PS') (left0 : Int) (hl : Lg l) (ho : jB l) (hl0 : gw left0) (n : Int) (hn : n = (d : Int) + 1) :
  AFn Tryz.prog 63 [.sl (dU l) l.length .none,inA left0,inA n] [] (inA (ol d (szS d) l left0)) []:=by
 unfold Lg at hl
 have hn0 : (n = 0) = False:=eq_false (by omega)
 have hn1 : (n == 0) = false:=by simp;omega
 have hnw : IntKind.i64.wrap (n - 1) = (d : Int):=by rw [bZ (by omega) (by omega)];omega
 obtain ⟨R,hR⟩ : ∃ R,R = ol d (szS d) l left0:=⟨_,rfl⟩
 rw [← hR]
 refine aC [] Tryz.func63 rfl Tryz.ntmps63 (Nat.le_of_ble_eq_true rfl) (Nat.le_of_ble_eq_true rfl) fun w0 G0 B0 Pr hB0=>?_
 simp only [aJ,aB,List.cons_append,List.nil_append]
 repeat' (first | (with_reducible refine hY _ ?_;clear hY Y) | ((with_reducible first | refine ar rfl (ay fun K' hK'=>aa ?_) | refine hK' _ (ab fun Y hY=>aa ?_) | refine ab fun Y hY=>aa ?_ | refine ae tk0 aG (ab fun Y hY=>aa ?_));(try clear hK' K');(try dsimp only [aop]);try simp only [go_sem,seval,-Int.reduceNatCast,-Int.reduceNatCast',aG,Tryz.results63,hn0,hn1]) | (with_reducible first | refine ag ?_ | refine aj ?_ | refine am ?_ | refine aF fun K hK=>?_ | refine av ?_ | refine ap ?_ | refine aD ?_ | refine bW ?_) | (with_reducible refine hK _ ?_;clear hK K) | ((with_reducible refine ai ?_ ?_);(· decide)))
 refine b9 (α:=Nat × Int) (fun p=>[(0,.sl (dU l) l.length .none),(1,inA p.2),(2,inA n),(7,inA (p.1 : Int))])
  (fun p=>p.1≤l.length∧gw p.2∧ol d (szS d) (l.drop p.1) p.2 = R) (fun p=>l.length - p.1) (0,left0) [0,1,2,7] ?_ ⟨Nat.zero_le _,hl0,hR.symm⟩ ?_
 ·simp only [go_sem,seval,-Int.reduceNatCast,-Int.reduceNatCast'] <;> rfl
 rintro ⟨k,left⟩ ⟨hk,hlf,hs⟩ ih
 simp only at hk hlf hs ih ⊢
 clear hR hl0
 by_cases hlt : k < l.length
 case neg =>
  have hlt' : ((k : Int) < (l.length : Int)) = False:=eq_false (by omega)
  rw [List.drop_of_length_le (by omega)] at hs
  unfold ol at hs
  subst hs
  repeat' (first | (with_reducible refine hY _ ?_;clear hY Y) | ((with_reducible first | refine ar rfl (ay fun K' hK'=>aa ?_) | refine hK' _ (ab fun Y hY=>aa ?_) | refine ba rfl (ab fun Y hY=>aa ?_) | refine ab fun Y hY=>aa ?_ | refine ae tk0 aG (ab fun Y hY=>aa ?_) | refine aa ?_ | refine aq ?_);(try clear hK' K');(try dsimp only [aop]);try simp only [go_sem,seval,-Int.reduceNatCast,-Int.reduceNatCast',aG,Tryz.results63,hlt']) | (with_reducible first | refine ag ?_ | refine aW rfl ?_ | refine dc ?_ ?_ | refine aj ?_ | refine am ?_ | refine aF fun K hK=>?_ | refine av ?_ | refine cf ?_ | refine bI ?_ | refine aA ?_ | refine bH ?_) | (with_reducible refine hK _ ?_;clear hK K) | ((with_reducible first | refine aI ?_ ?_ | refine ai ?_ ?_);(· decide)))
 have hlt' : ((k : Int) < (l.length : Int)) = True:=eq_true (by omega)
 have hkw : IntKind.i64.wrap ((k : Int) + 1) = ((k + 1 : Nat) : Int):=by rw [bZ (by omega) (by omega)];rfl
 have hg0:=kS hlt
 have hfl:=jk l
 have hok:=kl ho l[k] (List.getElem_mem hlt)
 rw [List.drop_eq_getElem_cons hlt] at hs
 generalize l[k] = e at *
 obtain ⟨sk,x,y,z,e,v,c,a,rs,gs,fs,bd,els⟩:=e
 obtain ⟨_,_,_,_,he,hv,hc,ha,⟨hrs,hro⟩,⟨hgs,hgo⟩,_,⟨hbd,hbo⟩,hel,heo⟩:=hok
 unfold ol at hs
 by_cases hz : left < 0
 ·rw [if_pos hz] at hs
  subst hs
  have hz' : ((0 : Int)≤left) = False:=eq_false (by omega)
  repeat' (first | (with_reducible refine hY _ ?_;clear hY Y) | ((with_reducible first | refine ar rfl (ay fun K' hK'=>aa ?_) | refine hK' _ (ab fun Y hY=>aa ?_) | refine ba rfl (ab fun Y hY=>aa ?_) | refine ab fun Y hY=>aa ?_ | refine ay fun K' hK'=>aa ?_ | refine ae tk0 aG (ab fun Y hY=>aa ?_) | refine aa ?_ | refine aq ?_);(try clear hK' K');(try dsimp only [aop]);try simp only [go_sem,seval,-Int.reduceNatCast,-Int.reduceNatCast',aG,Tryz.results63,hlt',hz']) | (with_reducible first | refine ag ?_ | refine aK ?_ | refine aj ?_ | refine am ?_ | refine aF fun K hK=>?_ | refine av ?_ | refine cf ?_ | refine bI ?_ | refine aA ?_ | refine bH ?_) | (with_reducible refine hK _ ?_;clear hK K) | ((with_reducible first | refine aI ?_ ?_ | refine ai ?_ ?_);(· decide)))
 rw [if_neg hz] at hs
 have hz' : ((0 : Int)≤left) = True:=eq_true (by omega)
 have hlw : IntKind.i64.wrap (left - 1) = left - 1:=bZ (by omega) (by omega)
 have h1:=tZ d hd [c] (left - 1) true (lg1 _) ⟨hc,trivial⟩ ⟨by omega,by omega⟩
 have b1:=qx d [c] (left - 1) (by omega)
 generalize szC d [c] (left - 1) = s0 at *
 have h2:=mj d hd [e,v] s0 true (lg2 _ _) ⟨he,hv,trivial⟩ ⟨by omega,by omega⟩
 have b2:=kC d [e,v] s0 (by omega)
 rw [show eM s0 (szE d [e,v]) = if 0≤s0 then szE d [e,v] s0 else s0 from rfl] at hs
 generalize szE d [e,v] s0 = s1 at *
 have h3:=mj d hd rs s1 false hrs hro ⟨by omega,by omega⟩
 have b3:=kC d rs s1 (by omega)
 obtain ⟨r3,e3⟩ : ∃ r3,szE d rs s1 = r3:=⟨_,rfl⟩
 rw [e3] at h3 b3
 have h4:=mj d hd gs r3 false hgs hgo ⟨by omega,by omega⟩
 have b4:=kC d gs r3 (by omega)
 obtain ⟨r4,e4⟩ : ∃ r4,szE d gs r3 = r4:=⟨_,rfl⟩
 rw [e4] at h4 b4
 have h5:=tY d hd [a] r4 true (lg1 _) ⟨ha,trivial⟩ ⟨by omega,by omega⟩
 have b5:=tq d [a] r4 (by omega)
 obtain ⟨r5,e5⟩ : ∃ r5,szA d [a] r4 = r5:=⟨_,rfl⟩
 rw [e5] at h5 b5
 have h6:=h bd r5 hbd hbo ⟨by omega,by omega⟩
 have b6:=uB d bd r5 (by omega)
 obtain ⟨r6,e6⟩ : ∃ r6,szS d bd r5 = r6:=⟨_,rfl⟩
 rw [e6] at h6 b6
 have h7:=h els r6 hel heo ⟨by omega,by omega⟩
 have b7:=uB d els r6 (by omega)
 obtain ⟨r7,e7⟩ : ∃ r7,szS d els r6 = r7:=⟨_,rfl⟩
 rw [e7] at h7 b7
 rw [uY] at h1
 rw [xm] at h2
 rw [Ci] at h5
 obtain ⟨ck,ce,cks⟩:=c
 obtain ⟨ek,en,ex,eks⟩:=e
 obtain ⟨vk,vn,vx,vks⟩:=v
 obtain ⟨ak,⟨ack,ace,acks⟩,⟨aek,aen,aex,aeks⟩,⟨avk,avn,avx,avks⟩,af,an,aks⟩:=a
 simp only [psA,paA,bR,peA,List.cons_append,List.nil_append] at hg0
 simp only [paA,bR,peA,ofB,List.length_cons,List.length_nil,Nat.reduceAdd,List.cons_append,List.nil_append] at h1 h2 h3 h4 h5
 have t0 : True = True:=rfl
 apply jR (α:=Int) (fun s=>[(0,.sl (dU l) l.length .none),(1,inA s),(2,inA n),(7,inA (k : Int)),(8,.loc 10008 0),(10008,.bc [inA sk,bs x,bs y,bs z,inA ek,inA en,bs ex,.sl (bY eks) eks.length .none,inA vk,inA vn,bs vx,.sl (bY vks) vks.length .none,inA ck,.sl (bY ce) ce.length .none,.sl (db cks) cks.length .none,inA ak,inA ack,.sl (bY ace) ace.length .none,.sl (db acks) acks.length .none,inA aek,inA aen,bs aex,.sl (bY aeks) aeks.length .none,inA avk,inA avn,bs avx,.sl (bY avks) avks.length .none,bs af,inA an,.sl (eT aks) aks.length .none,.sl (bY rs) rs.length .none,.sl (bY gs) gs.length .none,.sl (fs.map bs) fs.length .none,.sl (dU bd) bd.length .none,.sl (dU els) els.length .none] 57)])
  (fun s=>(-1≤s∧s≤left)∧(if 50 < fs.length∨200 < x.length∨200 < y.length∨200 < z.length then -1 else ol d (szS d) (l.drop (k + 1)) s) = R)
 case use =>
  intro key
  rcases (by omega : (¬ 0≤s0)∨(0≤s0∧¬ 0≤s1)∨(0≤s0∧0≤s1∧¬ 0≤r3)∨(0≤s0∧0≤s1∧0≤r3∧¬ 0≤r4)∨(0≤s0∧0≤s1∧0≤r3∧0≤r4∧¬ 0≤r5)∨(0≤s0∧0≤s1∧0≤r3∧0≤r4∧0≤r5∧¬ 0≤r6)∨(0≤s0∧0≤s1∧0≤r3∧0≤r4∧0≤r5∧0≤r6)) with
   c0 | ⟨c0,c1⟩ | ⟨c0,c1,c2⟩ | ⟨c0,c1,c2,c3⟩ | ⟨c0,c1,c2,c3,c4⟩ | ⟨c0,c1,c2,c3,c4,c5⟩ | ⟨c0,c1,c2,c3,c4,c5⟩
  ·have c1:=t0;have c2:=t0;have c3:=t0;have c4:=t0;have c5:=t0
   have hk:=key s0 ⟨by omega,by simpa only [eM,c0,if_false] using hs⟩
   clear key
   repeat' (first | (with_reducible refine hY _ ?_;clear hY Y) | ((with_reducible first | refine ar rfl (ay fun K' hK'=>aa ?_) | refine hK' _ (ab fun Y hY=>aa ?_) | refine ba rfl (ab fun Y hY=>aa ?_) | refine ab fun Y hY=>aa ?_ | refine ay fun K' hK'=>aa ?_ | refine aa ?_);(try clear hK' K');(try dsimp only [aop]);try simp only [go_sem,seval,-Int.reduceNatCast,-Int.reduceNatCast',aG,Tryz.results63,hlt',hz',hg0,hfl,hlw,hnw,c0,c1,c2,c3,c4,c5]) | (with_reducible first | refine ag ?_ | refine aK ?_ | refine aj ?_ | refine aF fun K hK=>?_ | refine ax ?_ | refine av ?_ | refine ap ?_ | refine aD ?_) | ((with_reducible refine cD 20 ?_ ?_);(· rfl)) | ((with_reducible refine bu 20 tk0 aG ?_ (ab fun Y hY=>aa ?_));(· rfl);(try dsimp only [aop]);try simp only [go_sem,seval,-Int.reduceNatCast,-Int.reduceNatCast',aG,Tryz.results63,hlt',hz',hg0,hfl,hlw,hnw,c0,c1,c2,c3,c4,c5]) | (with_reducible refine hK _ ?_;clear hK K) | ((with_reducible first | refine aI ?_ ?_ | refine ai ?_ ?_);(· decide)) | (with_reducible refine br ?_ ?_;(· (try and_intros) <;> first | omega | assumption | (simp only [List.length_append,List.length_map,List.length_cons,List.length_nil] <;> omega))) | (with_reducible refine ac (h1) ?_))
   refine dm (L:=[0,1,2,7,8]) (by simp only [go_sem,seval,-Int.reduceNatCast,-Int.reduceNatCast'];exact rfl) ?_
   exact hk
  ·have c2:=t0;have c3:=t0;have c4:=t0;have c5:=t0
   have hk:=key s1 ⟨by omega,by simpa only [eM,c0,c1,if_false,if_true] using hs⟩
   clear key
   repeat' (first | (with_reducible refine hY _ ?_;clear hY Y) | ((with_reducible first | refine ar rfl (ay fun K' hK'=>aa ?_) | refine hK' _ (ab fun Y hY=>aa ?_) | refine ba rfl (ab fun Y hY=>aa ?_) | refine ab fun Y hY=>aa ?_ | refine ay fun K' hK'=>aa ?_ | refine aa ?_);(try clear hK' K');(try dsimp only [aop]);try simp only [go_sem,seval,-Int.reduceNatCast,-Int.reduceNatCast',aG,Tryz.results63,hlt',hz',hg0,hfl,hlw,hnw,c0,c1,c2,c3,c4,c5]) | (with_reducible first | refine ag ?_ | refine aK ?_ | refine aj ?_ | refine aF fun K hK=>?_ | refine ax ?_ | refine av ?_ | refine ap ?_ | refine aD ?_) | ((with_reducible refine cD 20 ?_ ?_);(· rfl)) | ((with_reducible refine bu 20 tk0 aG ?_ (ab fun Y hY=>aa ?_));(· rfl);(try dsimp only [aop]);try simp only [go_sem,seval,-Int.reduceNatCast,-Int.reduceNatCast',aG,Tryz.results63,hlt',hz',hg0,hfl,hlw,hnw,c0,c1,c2,c3,c4,c5]) | (with_reducible refine hK _ ?_;clear hK K) | ((with_reducible first | refine aI ?_ ?_ | refine ai ?_ ?_);(· decide)) | (with_reducible refine br ?_ ?_;(· (try and_intros) <;> first | omega | assumption | (simp only [List.length_append,List.length_map,List.length_cons,List.length_nil] <;> omega))) | (with_reducible refine ac (h1) ?_) | (with_reducible refine ac (h2) ?_))
   refine dm (L:=[0,1,2,7,8]) (by simp only [go_sem,seval,-Int.reduceNatCast,-Int.reduceNatCast'];exact rfl) ?_
   exact hk
  ·have c3:=t0;have c4:=t0;have c5:=t0
   have hk:=key r3 ⟨by omega,by simpa only [eM,c0,c1,c2,e3,if_false,if_true] using hs⟩
   clear key
   repeat' (first | (with_reducible refine hY _ ?_;clear hY Y) | ((with_reducible first | refine ar rfl (ay fun K' hK'=>aa ?_) | refine hK' _ (ab fun Y hY=>aa ?_) | refine ba rfl (ab fun Y hY=>aa ?_) | refine ab fun Y hY=>aa ?_ | refine ay fun K' hK'=>aa ?_ | refine aa ?_);(try clear hK' K');(try dsimp only [aop]);try simp only [go_sem,seval,-Int.reduceNatCast,-Int.reduceNatCast',aG,Tryz.results63,hlt',hz',hg0,hfl,hlw,hnw,c0,c1,c2,c3,c4,c5]) | (with_reducible first | refine ag ?_ | refine aK ?_ | refine aj ?_ | refine aF fun K hK=>?_ | refine ax ?_ | refine av ?_ | refine ap ?_ | refine aD ?_) | ((with_reducible refine cD 20 ?_ ?_);(· rfl)) | ((with_reducible refine bu 20 tk0 aG ?_ (ab fun Y hY=>aa ?_));(· rfl);(try dsimp only [aop]);try simp only [go_sem,seval,-Int.reduceNatCast,-Int.reduceNatCast',aG,Tryz.results63,hlt',hz',hg0,hfl,hlw,hnw,c0,c1,c2,c3,c4,c5]) | (with_reducible refine hK _ ?_;clear hK K) | ((with_reducible first | refine aI ?_ ?_ | refine ai ?_ ?_);(· decide)) | (with_reducible refine br ?_ ?_;(· (try and_intros) <;> first | omega | assumption | (simp only [List.length_append,List.length_map,List.length_cons,List.length_nil] <;> omega))) | (with_reducible refine ac (h1) ?_) | (with_reducible refine ac (h2) ?_) | (with_reducible refine ac (h3) ?_))
   refine dm (L:=[0,1,2,7,8]) (by simp only [go_sem,seval,-Int.reduceNatCast,-Int.reduceNatCast'];exact rfl) ?_
   exact hk
  ·have c4:=t0;have c5:=t0
   have hk:=key r4 ⟨by omega,by simpa only [eM,c0,c1,c2,c3,e3,e4,if_false,if_true] using hs⟩
   clear key
   repeat' (first | (with_reducible refine hY _ ?_;clear hY Y) | ((with_reducible first | refine ar rfl (ay fun K' hK'=>aa ?_) | refine hK' _ (ab fun Y hY=>aa ?_) | refine ba rfl (ab fun Y hY=>aa ?_) | refine ab fun Y hY=>aa ?_ | refine ay fun K' hK'=>aa ?_ | refine aa ?_);(try clear hK' K');(try dsimp only [aop]);try simp only [go_sem,seval,-Int.reduceNatCast,-Int.reduceNatCast',aG,Tryz.results63,hlt',hz',hg0,hfl,hlw,hnw,c0,c1,c2,c3,c4,c5]) | (with_reducible first | refine ag ?_ | refine aK ?_ | refine aj ?_ | refine aF fun K hK=>?_ | refine ax ?_ | refine av ?_ | refine ap ?_ | refine aD ?_) | ((with_reducible refine cD 20 ?_ ?_);(· rfl)) | ((with_reducible refine bu 20 tk0 aG ?_ (ab fun Y hY=>aa ?_));(· rfl);(try dsimp only [aop]);try simp only [go_sem,seval,-Int.reduceNatCast,-Int.reduceNatCast',aG,Tryz.results63,hlt',hz',hg0,hfl,hlw,hnw,c0,c1,c2,c3,c4,c5]) | (with_reducible refine hK _ ?_;clear hK K) | ((with_reducible first | refine aI ?_ ?_ | refine ai ?_ ?_);(· decide)) | (with_reducible refine br ?_ ?_;(· (try and_intros) <;> first | omega | assumption | (simp only [List.length_append,List.length_map,List.length_cons,List.length_nil] <;> omega))) | (with_reducible refine ac (h1) ?_) | (with_reducible refine ac (h2) ?_) | (with_reducible refine ac (h3) ?_) | (with_reducible refine ac (h4) ?_))
   refine dm (L:=[0,1,2,7,8]) (by simp only [go_sem,seval,-Int.reduceNatCast,-Int.reduceNatCast'];exact rfl) ?_
   exact hk
  ·have c5:=t0
   have hk:=key r5 ⟨by omega,by simpa only [eM,c0,c1,c2,c3,c4,e3,e4,e5,if_false,if_true] using hs⟩
   clear key
   repeat' (first | (with_reducible refine hY _ ?_;clear hY Y) | ((with_reducible first | refine ar rfl (ay fun K' hK'=>aa ?_) | refine hK' _ (ab fun Y hY=>aa ?_) | refine ba rfl (ab fun Y hY=>aa ?_) | refine ab fun Y hY=>aa ?_ | refine ay fun K' hK'=>aa ?_ | refine aa ?_);(try clear hK' K');(try dsimp only [aop]);try simp only [go_sem,seval,-Int.reduceNatCast,-Int.reduceNatCast',aG,Tryz.results63,hlt',hz',hg0,hfl,hlw,hnw,c0,c1,c2,c3,c4,c5]) | (with_reducible first | refine ag ?_ | refine aK ?_ | refine aj ?_ | refine aF fun K hK=>?_ | refine ax ?_ | refine av ?_ | refine ap ?_ | refine aD ?_) | ((with_reducible refine cD 20 ?_ ?_);(· rfl)) | ((with_reducible refine bu 20 tk0 aG ?_ (ab fun Y hY=>aa ?_));(· rfl);(try dsimp only [aop]);try simp only [go_sem,seval,-Int.reduceNatCast,-Int.reduceNatCast',aG,Tryz.results63,hlt',hz',hg0,hfl,hlw,hnw,c0,c1,c2,c3,c4,c5]) | (with_reducible refine hK _ ?_;clear hK K) | ((with_reducible first | refine aI ?_ ?_ | refine ai ?_ ?_);(· decide)) | (with_reducible refine br ?_ ?_;(· (try and_intros) <;> first | omega | assumption | (simp only [List.length_append,List.length_map,List.length_cons,List.length_nil] <;> omega))) | (with_reducible refine ac (h1) ?_) | (with_reducible refine ac (h2) ?_) | (with_reducible refine ac (h3) ?_) | (with_reducible refine ac (h4) ?_) | (with_reducible refine ac (h5) ?_))
   refine dm (L:=[0,1,2,7,8]) (by simp only [go_sem,seval,-Int.reduceNatCast,-Int.reduceNatCast'];exact rfl) ?_
   exact hk
  ·have hk:=key r6 ⟨by omega,by simpa only [eM,c0,c1,c2,c3,c4,c5,e3,e4,e5,e6,if_false,if_true] using hs⟩
   clear key
   repeat' (first | (with_reducible refine hY _ ?_;clear hY Y) | ((with_reducible first | refine ar rfl (ay fun K' hK'=>aa ?_) | refine hK' _ (ab fun Y hY=>aa ?_) | refine ba rfl (ab fun Y hY=>aa ?_) | refine ab fun Y hY=>aa ?_ | refine ay fun K' hK'=>aa ?_ | refine aa ?_);(try clear hK' K');(try dsimp only [aop]);try simp only [go_sem,seval,-Int.reduceNatCast,-Int.reduceNatCast',aG,Tryz.results63,hlt',hz',hg0,hfl,hlw,hnw,c0,c1,c2,c3,c4,c5]) | (with_reducible first | refine ag ?_ | refine aK ?_ | refine aj ?_ | refine aF fun K hK=>?_ | refine ax ?_ | refine av ?_ | refine ap ?_ | refine aD ?_) | ((with_reducible refine cD 20 ?_ ?_);(· rfl)) | ((with_reducible refine bu 20 tk0 aG ?_ (ab fun Y hY=>aa ?_));(· rfl);(try dsimp only [aop]);try simp only [go_sem,seval,-Int.reduceNatCast,-Int.reduceNatCast',aG,Tryz.results63,hlt',hz',hg0,hfl,hlw,hnw,c0,c1,c2,c3,c4,c5]) | (with_reducible refine hK _ ?_;clear hK K) | ((with_reducible first | refine aI ?_ ?_ | refine ai ?_ ?_);(· decide)) | (with_reducible refine br ?_ ?_;(· (try and_intros) <;> first | omega | assumption | (simp only [List.length_append,List.length_map,List.length_cons,List.length_nil] <;> omega))) | (with_reducible refine ac (h1) ?_) | (with_reducible refine ac (h2) ?_) | (with_reducible refine ac (h3) ?_) | (with_reducible refine ac (h4) ?_) | (with_reducible refine ac (h5) ?_) | (with_reducible refine ac (h6) ?_))
   refine dm (L:=[0,1,2,7,8]) (by simp only [go_sem,seval,-Int.reduceNatCast,-Int.reduceNatCast'];exact rfl) ?_
   exact hk
  ·have hk:=key r7 ⟨by omega,by simpa only [eM,c0,c1,c2,c3,c4,c5,e3,e4,e5,e6,e7,if_false,if_true] using hs⟩
   clear key
   repeat' (first | (with_reducible refine hY _ ?_;clear hY Y) | ((with_reducible first | refine ar rfl (ay fun K' hK'=>aa ?_) | refine hK' _ (ab fun Y hY=>aa ?_) | refine ba rfl (ab fun Y hY=>aa ?_) | refine ab fun Y hY=>aa ?_ | refine ay fun K' hK'=>aa ?_ | refine aa ?_);(try clear hK' K');(try dsimp only [aop]);try simp only [go_sem,seval,-Int.reduceNatCast,-Int.reduceNatCast',aG,Tryz.results63,hlt',hz',hg0,hfl,hlw,hnw,c0,c1,c2,c3,c4,c5]) | (with_reducible first | refine ag ?_ | refine aK ?_ | refine aj ?_ | refine aF fun K hK=>?_ | refine ax ?_ | refine ap ?_ | refine aD ?_) | ((with_reducible refine cD 20 ?_ ?_);(· rfl)) | ((with_reducible refine bu 20 tk0 aG ?_ (ab fun Y hY=>aa ?_));(· rfl);(try dsimp only [aop]);try simp only [go_sem,seval,-Int.reduceNatCast,-Int.reduceNatCast',aG,Tryz.results63,hlt',hz',hg0,hfl,hlw,hnw,c0,c1,c2,c3,c4,c5]) | (with_reducible refine hK _ ?_;clear hK K) | ((with_reducible first | refine aI ?_ ?_ | refine ai ?_ ?_);(· decide)) | (with_reducible refine br ?_ ?_;(· (try and_intros) <;> first | omega | assumption | (simp only [List.length_append,List.length_map,List.length_cons,List.length_nil] <;> omega))) | (with_reducible refine ac (h1) ?_) | (with_reducible refine ac (h2) ?_) | (with_reducible refine ac (h3) ?_) | (with_reducible refine ac (h4) ?_) | (with_reducible refine ac (h5) ?_) | (with_reducible refine ac (h6) ?_) | (with_reducible refine ac (h7) ?_))
   refine dm (L:=[0,1,2,7,8]) (by simp only [go_sem,seval,-Int.reduceNatCast,-Int.reduceNatCast'];exact rfl) ?_
   exact hk
 case key =>
  clear hs h1 h2 h3 h4 h5 h6 h7 b1 b2 b3 b4 b5 b6 b7 e3 e4 e5 e6 e7 hg0
  rintro s ⟨hsl,hs⟩
  by_cases hx2 : 50 < fs.length∨200 < x.length∨200 < y.length∨200 < z.length
  ·rw [if_pos hx2] at hs
   subst hs
   clear ih
   rcases (by omega : 50 < fs.length∨(¬ 50 < fs.length∧200 < x.length)∨(¬ 50 < fs.length∧¬ 200 < x.length∧200 < y.length)∨(¬ 50 < fs.length∧¬ 200 < x.length∧¬ 200 < y.length∧200 < z.length)) with g1 | ⟨g1,g2⟩ | ⟨g1,g2,g3⟩ | ⟨g1,g2,g3,g4⟩
   ·have g1' : ((50 : Int) < (fs.length : Int)) = True:=eq_true (by omega)
    repeat' (first | (with_reducible refine hY _ ?_;clear hY Y) | ((with_reducible first | refine ar rfl (ay fun K' hK'=>aa ?_) | refine hK' _ (ab fun Y hY=>aa ?_) | refine ba rfl (ab fun Y hY=>aa ?_) | refine ab fun Y hY=>aa ?_ | refine ae tk0 aG (ab fun Y hY=>aa ?_) | refine aa ?_ | refine aq ?_);(try clear hK' K');(try dsimp only [aop]);try simp only [go_sem,seval,-Int.reduceNatCast,-Int.reduceNatCast',aG,Tryz.results63,hkw,g1']) | (with_reducible first | refine ag ?_ | refine aW rfl ?_ | refine dc ?_ ?_ | refine aj ?_ | refine am ?_ | refine aF fun K hK=>?_ | refine ax ?_ | refine aZ ?_ | refine bh ?_ | refine aA ?_) | (with_reducible refine hK _ ?_;clear hK K) | ((with_reducible first | refine aI ?_ ?_ | refine ai ?_ ?_);(· decide)))
   ·have g1' : ((50 : Int) < (fs.length : Int)) = False:=eq_false (by omega)
    have g2' : ((200 : Int) < (x.length : Int)) = True:=eq_true (by omega)
    repeat' (first | (with_reducible refine hY _ ?_;clear hY Y) | ((with_reducible first | refine ar rfl (ay fun K' hK'=>aa ?_) | refine hK' _ (ab fun Y hY=>aa ?_) | refine ba rfl (ab fun Y hY=>aa ?_) | refine ab fun Y hY=>aa ?_ | refine ay fun K' hK'=>aa ?_ | refine ae tk0 aG (ab fun Y hY=>aa ?_) | refine aa ?_ | refine aq ?_);(try clear hK' K');(try dsimp only [aop]);try simp only [go_sem,seval,-Int.reduceNatCast,-Int.reduceNatCast',aG,Tryz.results63,hkw,g1',g2']) | (with_reducible first | refine ag ?_ | refine aW rfl ?_ | refine aK ?_ | refine dc ?_ ?_ | refine aj ?_ | refine am ?_ | refine aF fun K hK=>?_ | refine ax ?_ | refine aZ ?_ | refine bh ?_ | refine aA ?_) | (with_reducible refine hK _ ?_;clear hK K) | ((with_reducible first | refine aI ?_ ?_ | refine ai ?_ ?_);(· decide)))
   ·have g1' : ((50 : Int) < (fs.length : Int)) = False:=eq_false (by omega)
    have g2' : ((200 : Int) < (x.length : Int)) = False:=eq_false (by omega)
    have g3' : ((200 : Int) < (y.length : Int)) = True:=eq_true (by omega)
    repeat' (first | (with_reducible refine hY _ ?_;clear hY Y) | ((with_reducible first | refine ar rfl (ay fun K' hK'=>aa ?_) | refine hK' _ (ab fun Y hY=>aa ?_) | refine ba rfl (ab fun Y hY=>aa ?_) | refine ab fun Y hY=>aa ?_ | refine ay fun K' hK'=>aa ?_ | refine ae tk0 aG (ab fun Y hY=>aa ?_) | refine aa ?_ | refine aq ?_);(try clear hK' K');(try dsimp only [aop]);try simp only [go_sem,seval,-Int.reduceNatCast,-Int.reduceNatCast',aG,Tryz.results63,hkw,g1',g2',g3']) | (with_reducible first | refine ag ?_ | refine aW rfl ?_ | refine aK ?_ | refine dc ?_ ?_ | refine aj ?_ | refine am ?_ | refine aF fun K hK=>?_ | refine ax ?_ | refine aZ ?_ | refine bh ?_ | refine aA ?_) | (with_reducible refine hK _ ?_;clear hK K) | ((with_reducible first | refine aI ?_ ?_ | refine ai ?_ ?_);(· decide)))
   ·have g1' : ((50 : Int) < (fs.length : Int)) = False:=eq_false (by omega)
    have g2' : ((200 : Int) < (x.length : Int)) = False:=eq_false (by omega)
    have g3' : ((200 : Int) < (y.length : Int)) = False:=eq_false (by omega)
    have g4' : ((200 : Int) < (z.length : Int)) = True:=eq_true (by omega)
    repeat' (first | (with_reducible refine hY _ ?_;clear hY Y) | ((with_reducible first | refine ar rfl (ay fun K' hK'=>aa ?_) | refine hK' _ (ab fun Y hY=>aa ?_) | refine ba rfl (ab fun Y hY=>aa ?_) | refine ab fun Y hY=>aa ?_ | refine ay fun K' hK'=>aa ?_ | refine ae tk0 aG (ab fun Y hY=>aa ?_) | refine aa ?_ | refine aq ?_);(try clear hK' K');(try dsimp only [aop]);try simp only [go_sem,seval,-Int.reduceNatCast,-Int.reduceNatCast',aG,Tryz.results63,hkw,g1',g2',g3',g4']) | (with_reducible first | refine ag ?_ | refine aK ?_ | refine aj ?_ | refine am ?_ | refine aF fun K hK=>?_ | refine ax ?_ | refine aZ ?_ | refine bh ?_ | refine aA ?_) | (with_reducible refine hK _ ?_;clear hK K) | ((with_reducible first | refine aI ?_ ?_ | refine ai ?_ ?_);(· decide)))
  ·rw [if_neg hx2] at hs
   have g1' : ((50 : Int) < (fs.length : Int)) = False:=eq_false (by omega)
   have g2' : ((200 : Int) < (x.length : Int)) = False:=eq_false (by omega)
   have g3' : ((200 : Int) < (y.length : Int)) = False:=eq_false (by omega)
   have g4' : ((200 : Int) < (z.length : Int)) = False:=eq_false (by omega)
   repeat' (first | (with_reducible refine hY _ ?_;clear hY Y) | ((with_reducible first | refine ar rfl (ay fun K' hK'=>aa ?_) | refine hK' _ (ab fun Y hY=>aa ?_) | refine ba rfl (ab fun Y hY=>aa ?_) | refine ab fun Y hY=>aa ?_ | refine ay fun K' hK'=>aa ?_ | refine ae tk0 aG (ab fun Y hY=>aa ?_));(try clear hK' K');(try dsimp only [aop]);try simp only [go_sem,seval,-Int.reduceNatCast,-Int.reduceNatCast',aG,Tryz.results63,hkw,g1',g2',g3',g4']) | (with_reducible first | refine ag ?_ | refine aK ?_ | refine aj ?_ | refine am ?_ | refine aF fun K hK=>?_ | refine av ?_ | refine aR ?_ | refine aD ?_) | (with_reducible refine hK _ ?_;clear hK K) | ((with_reducible first | refine aI ?_ ?_ | refine ai ?_ ?_);(· decide)))
   refine bi [0,1,2,7] (by simp only [go_sem,seval,-Int.reduceNatCast,-Int.reduceNatCast'];exact rfl) ?_
   exact ih (k + 1,s) ⟨by omega,⟨by omega,by omega⟩,hs⟩ (by show l.length - (k + 1) < l.length - k;omega)
set_option maxRecDepth 100000 in
theorem xu : ∀ (d : Nat),d≤1000→∀ (l : List PS') (left : Int),Lg l→jB l→gw left→AFn Tryz.prog 63 [.sl (dU l) l.length .none,inA left,inA (d : Int)] [] (inA (szS d l left)) []
 | 0,_,l,left,_,_,_=>by
  refine aC [] Tryz.func63 rfl Tryz.ntmps63 (Nat.le_of_ble_eq_true rfl) (Nat.le_of_ble_eq_true rfl) fun w0 G0 B0 Pr hB0=>?_
  simp only [aJ,aB,List.cons_append,List.nil_append]
  repeat' (first | (with_reducible refine hY _ ?_;clear hY Y) | ((with_reducible first | refine ar rfl (ay fun K' hK'=>aa ?_) | refine hK' _ (ab fun Y hY=>aa ?_) | refine ab fun Y hY=>aa ?_ | refine ae tk0 aG (ab fun Y hY=>aa ?_) | refine aa ?_ | refine aq ?_);(try clear hK' K');(try dsimp only [aop]);try simp only [go_sem,seval,-Int.reduceNatCast,-Int.reduceNatCast',aG,Tryz.results63]) | (with_reducible first | refine ag ?_ | refine aj ?_ | refine am ?_ | refine aF fun K hK=>?_ | refine aZ ?_ | refine aA ?_) | (with_reducible refine hK _ ?_;clear hK K) | ((with_reducible refine ai ?_ ?_);(· decide)) | ((with_reducible refine fu (fun hc=>?_) (fun hc=>?_)) <;> (try simp only [decide_eq_true_eq,decide_eq_false_iff_not,Bool.not_true,Bool.not_false,Bool.not_eq_true',Bool.not_eq_false'] at hc) <;> (try (exfalso;omega))))
  all_goals (rfl)
 | d + 1,hd,l,left,hl,ho,hf=>Cs d (by omega) (xu d (by omega)) l left hl ho hf _ rfl
def bb : Nat→List Nat
 | 0=>[0,1]
 | 1=>[1,2]
 | 2=>[]
 | 3=>[1,2]
 | 4=>[1,2,5]
 | 5=>[1,2,5]
 | 6=>[1,2,5]
 | 7=>[1,2,5,6]
 | 8=>[]
 | 9=>[1,2,5,6]
 | 10=>[1,2,5,6]
 | 11=>[1,2,5,6]
 | 12=>[1]
 | _=>[]
set_option maxRecDepth 100000 in
set_option maxHeartbeats 8000000 in
theorem xZ (l : List PP) (left0 : Int) (ho : mt l) (hl0 : gw left0) : AFn Tryz.prog 23 [.agg [gv l],inA left0] [] (.c (.bool (ij l left0))) []:=by
 obtain ⟨hl,ho⟩:=ho
 unfold Lg at hl
 unfold ij
 by_cases h50 : 50 < l.length
 ·rw [if_pos h50]
  have h50' : ((50 : Int) < (l.length : Int)) = True:=eq_true (by omega)
  refine aC [] Tryz.func23 rfl Tryz.ntmps23 (Nat.le_of_ble_eq_true rfl) (Nat.le_of_ble_eq_true rfl) fun w0 G0 B0 Pr hB0=>?_
  simp only [aJ,aB,List.cons_append,List.nil_append]
  repeat' (first | (with_reducible refine hY _ ?_;clear hY Y) | ((with_reducible first | refine ar rfl (ay fun K' hK'=>aa ?_) | refine hK' _ (ab fun Y hY=>aa ?_) | refine ab fun Y hY=>aa ?_ | refine ae tk0 bb (ab fun Y hY=>aa ?_) | refine aa ?_ | refine aq ?_);(try clear hK' K');(try dsimp only [aop]);try simp only [go_sem,seval,-Int.reduceNatCast,-Int.reduceNatCast',bb,Tryz.results23,h50']) | (with_reducible first | refine ag ?_ | refine aj ?_ | refine am ?_ | refine aF fun K hK=>?_ | refine ax ?_ | refine aZ ?_ | refine aA ?_) | (with_reducible refine hK _ ?_;clear hK K) | ((with_reducible refine ai ?_ ?_);(· decide)))
 rw [if_neg h50]
 have h50' : ((50 : Int) < (l.length : Int)) = False:=eq_false (by omega)
 obtain ⟨R,hR⟩ : ∃ R,R = jV l left0:=⟨_,rfl⟩
 rw [← hR]
 refine aC [] Tryz.func23 rfl Tryz.ntmps23 (Nat.le_of_ble_eq_true rfl) (Nat.le_of_ble_eq_true rfl) fun w0 G0 B0 Pr hB0=>?_
 simp only [aJ,aB,List.cons_append,List.nil_append]
 repeat' (first | (with_reducible refine hY _ ?_;clear hY Y) | ((with_reducible first | refine ar rfl (ay fun K' hK'=>aa ?_) | refine hK' _ (ab fun Y hY=>aa ?_) | refine ab fun Y hY=>aa ?_ | refine ae tk0 bb (ab fun Y hY=>aa ?_));(try clear hK' K');(try dsimp only [aop]);try simp only [go_sem,seval,-Int.reduceNatCast,-Int.reduceNatCast',bb,Tryz.results23,h50']) | (with_reducible first | refine ag ?_ | refine aj ?_ | refine am ?_ | refine aF fun K hK=>?_ | refine av ?_ | refine ap ?_ | refine aD ?_ | refine bW ?_) | (with_reducible refine hK _ ?_;clear hK K) | ((with_reducible refine ai ?_ ?_);(· decide)))
 refine b9 (α:=Nat × Int) (fun p=>[(1,inA p.2),(2,.loc 10002 0),(5,inA (p.1 : Int)),(10002,.bc [gv l] 24)])
  (fun p=>p.1≤l.length∧gw p.2∧jV (l.drop p.1) p.2 = R) (fun p=>l.length - p.1) (0,left0) [1,2,5] ?_ ⟨Nat.zero_le _,hl0,hR.symm⟩ ?_
 ·simp only [go_sem,seval,-Int.reduceNatCast,-Int.reduceNatCast'] <;> rfl
 rintro ⟨k,left⟩ ⟨hk,hlf,hs⟩ ih
 simp only at hk hlf hs ih ⊢
 clear hR hl0
 by_cases hlt : k < l.length
 case neg =>
  have hlt' : ((k : Int) < (l.length : Int)) = False:=eq_false (by omega)
  rw [List.drop_of_length_le (by omega)] at hs
  unfold jV at hs
  subst hs
  repeat' (first | (with_reducible refine hY _ ?_;clear hY Y) | ((with_reducible first | refine ar rfl (ay fun K' hK'=>aa ?_) | refine hK' _ (ab fun Y hY=>aa ?_) | refine ba rfl (ab fun Y hY=>aa ?_) | refine ab fun Y hY=>aa ?_ | refine ae tk0 bb (ab fun Y hY=>aa ?_) | refine aa ?_ | refine aq ?_);(try clear hK' K');(try dsimp only [aop]);try simp only [go_sem,seval,-Int.reduceNatCast,-Int.reduceNatCast',bb,Tryz.results23,hlt']) | (with_reducible first | refine ag ?_ | refine aW rfl ?_ | refine dc ?_ ?_ | refine aj ?_ | refine am ?_ | refine aF fun K hK=>?_ | refine av ?_ | refine cf ?_ | refine bI ?_ | refine aA ?_ | refine bH ?_) | (with_reducible refine hK _ ?_;clear hK K) | ((with_reducible first | refine aI ?_ ?_ | refine ai ?_ ?_);(· decide)))
 have hlt' : ((k : Int) < (l.length : Int)) = True:=eq_true (by omega)
 have hkw : IntKind.i64.wrap ((k : Int) + 1) = ((k + 1 : Nat) : Int):=by rw [bZ (by omega) (by omega)];rfl
 have hg0:=mP hlt
 have hfl:=nU l
 have hok:=ho l[k] (List.getElem_mem hlt)
 rw [List.drop_eq_getElem_cons hlt] at hs
 generalize l[k] = e at *
 obtain ⟨x,ps,gs,pr,po,bd⟩:=e
 obtain ⟨_,_,_,hpr,hpo,hbd,hbo⟩:=hok
 simp only at hpr hpo hbd hbo
 unfold jV at hs
 by_cases hz : left < 0
 ·rw [if_pos hz] at hs
  subst hs
  have hz' : ((0 : Int)≤left) = False:=eq_false (by omega)
  repeat' (first | (with_reducible refine hY _ ?_;clear hY Y) | ((with_reducible first | refine ar rfl (ay fun K' hK'=>aa ?_) | refine hK' _ (ab fun Y hY=>aa ?_) | refine ba rfl (ab fun Y hY=>aa ?_) | refine ab fun Y hY=>aa ?_ | refine ay fun K' hK'=>aa ?_ | refine ae tk0 bb (ab fun Y hY=>aa ?_) | refine aa ?_ | refine aq ?_);(try clear hK' K');(try dsimp only [aop]);try simp only [go_sem,seval,-Int.reduceNatCast,-Int.reduceNatCast',bb,Tryz.results23,hlt',hz']) | (with_reducible first | refine ag ?_ | refine aK ?_ | refine aj ?_ | refine am ?_ | refine aF fun K hK=>?_ | refine av ?_ | refine cf ?_ | refine bI ?_ | refine aA ?_ | refine bH ?_) | (with_reducible refine hK _ ?_;clear hK K) | ((with_reducible first | refine aI ?_ ?_ | refine ai ?_ ?_);(· decide)))
 rw [if_neg hz] at hs
 simp only at hs
 have hz' : ((0 : Int)≤left) = True:=eq_true (by omega)
 by_cases hx : 50 < ps.length∨50 < gs.length∨200 < x.length
 ·rw [if_pos hx] at hs
  subst hs
  simp only [ppA,List.cons_append,List.nil_append] at hg0
  clear ih
  obtain ⟨ak,⟨ack,ace,acks⟩,⟨aek,aen,aex,aeks⟩,⟨avk,avn,avx,avks⟩,af,an,aks⟩:=pr
  obtain ⟨qk,⟨qck,qce,qcks⟩,⟨qek,qen,qex,qeks⟩,⟨qvk,qvn,qvx,qvks⟩,qf,qn,qks⟩:=po
  simp only [paA,bR,peA,List.cons_append,List.nil_append] at hg0
  rcases (by omega : 50 < ps.length∨(¬ 50 < ps.length∧50 < gs.length)∨(¬ 50 < ps.length∧¬ 50 < gs.length∧200 < x.length)) with g1 | ⟨g1,g2⟩ | ⟨g1,g2,g3⟩
  ·have g1' : ((50 : Int) < (ps.length : Int)) = True:=eq_true (by omega)
   repeat' (first | (with_reducible refine hY _ ?_;clear hY Y) | ((with_reducible first | refine ar rfl (ay fun K' hK'=>aa ?_) | refine hK' _ (ab fun Y hY=>aa ?_) | refine ba rfl (ab fun Y hY=>aa ?_) | refine ab fun Y hY=>aa ?_ | refine ay fun K' hK'=>aa ?_ | refine ae tk0 bb (ab fun Y hY=>aa ?_) | refine aa ?_ | refine aq ?_);(try clear hK' K');(try dsimp only [aop]);try simp only [go_sem,seval,-Int.reduceNatCast,-Int.reduceNatCast',bb,Tryz.results23,hlt',hz',hg0,hfl,g1']) | (with_reducible first | refine ag ?_ | refine aW rfl ?_ | refine aK ?_ | refine dc ?_ ?_ | refine aj ?_ | refine am ?_ | refine aF fun K hK=>?_ | refine ax ?_ | refine aZ ?_ | refine bh ?_ | refine ap ?_ | refine aD ?_ | refine aA ?_) | (with_reducible refine hK _ ?_;clear hK K) | ((with_reducible first | refine aI ?_ ?_ | refine ai ?_ ?_);(· decide)) | (with_reducible refine br ?_ ?_;(· (try and_intros) <;> first | omega | assumption | (simp only [List.length_append,List.length_map,List.length_cons,List.length_nil] <;> omega))))
  ·have g1' : ((50 : Int) < (ps.length : Int)) = False:=eq_false (by omega)
   have g2' : ((50 : Int) < (gs.length : Int)) = True:=eq_true (by omega)
   repeat' (first | (with_reducible refine hY _ ?_;clear hY Y) | ((with_reducible first | refine ar rfl (ay fun K' hK'=>aa ?_) | refine hK' _ (ab fun Y hY=>aa ?_) | refine ba rfl (ab fun Y hY=>aa ?_) | refine ab fun Y hY=>aa ?_ | refine ay fun K' hK'=>aa ?_ | refine ae tk0 bb (ab fun Y hY=>aa ?_) | refine aa ?_ | refine aq ?_);(try clear hK' K');(try dsimp only [aop]);try simp only [go_sem,seval,-Int.reduceNatCast,-Int.reduceNatCast',bb,Tryz.results23,hlt',hz',hg0,hfl,g1',g2']) | (with_reducible first | refine ag ?_ | refine aW rfl ?_ | refine aK ?_ | refine dc ?_ ?_ | refine aj ?_ | refine am ?_ | refine aF fun K hK=>?_ | refine ax ?_ | refine aZ ?_ | refine bh ?_ | refine ap ?_ | refine aD ?_ | refine aA ?_) | (with_reducible refine hK _ ?_;clear hK K) | ((with_reducible first | refine aI ?_ ?_ | refine ai ?_ ?_);(· decide)) | (with_reducible refine br ?_ ?_;(· (try and_intros) <;> first | omega | assumption | (simp only [List.length_append,List.length_map,List.length_cons,List.length_nil] <;> omega))))
  ·have g1' : ((50 : Int) < (ps.length : Int)) = False:=eq_false (by omega)
   have g2' : ((50 : Int) < (gs.length : Int)) = False:=eq_false (by omega)
   have g3' : ((200 : Int) < (x.length : Int)) = True:=eq_true (by omega)
   repeat' (first | (with_reducible refine hY _ ?_;clear hY Y) | ((with_reducible first | refine ar rfl (ay fun K' hK'=>aa ?_) | refine hK' _ (ab fun Y hY=>aa ?_) | refine ba rfl (ab fun Y hY=>aa ?_) | refine ab fun Y hY=>aa ?_ | refine ay fun K' hK'=>aa ?_ | refine ae tk0 bb (ab fun Y hY=>aa ?_) | refine aa ?_ | refine aq ?_);(try clear hK' K');(try dsimp only [aop]);try simp only [go_sem,seval,-Int.reduceNatCast,-Int.reduceNatCast',bb,Tryz.results23,hlt',hz',hg0,hfl,g1',g2',g3']) | (with_reducible first | refine ag ?_ | refine aK ?_ | refine aj ?_ | refine am ?_ | refine aF fun K hK=>?_ | refine ax ?_ | refine aZ ?_ | refine bh ?_ | refine ap ?_ | refine aD ?_ | refine aA ?_) | (with_reducible refine hK _ ?_;clear hK K) | ((with_reducible first | refine aI ?_ ?_ | refine ai ?_ ?_);(· decide)) | (with_reducible refine br ?_ ?_;(· (try and_intros) <;> first | omega | assumption | (simp only [List.length_append,List.length_map,List.length_cons,List.length_nil] <;> omega))))
 rw [if_neg hx] at hs
 have g1' : ((50 : Int) < (ps.length : Int)) = False:=eq_false (by omega)
 have g2' : ((50 : Int) < (gs.length : Int)) = False:=eq_false (by omega)
 have g3' : ((200 : Int) < (x.length : Int)) = False:=eq_false (by omega)
 have h1:=tY 300 (by decide) [pr,po] left true (lg2 _ _) ⟨hpr,hpo,trivial⟩ hlf
 have b1:=tq 300 [pr,po] left (by omega)
 generalize szA 300 [pr,po] left = s0 at *
 have h2:=xu 300 (by decide) bd s0 hbd hbo ⟨by omega,by omega⟩
 have b2:=uB 300 bd s0 (by omega)
 rw [show eM s0 (szS 300 bd) = if 0≤s0 then szS 300 bd s0 else s0 from rfl] at hs
 generalize szS 300 bd s0 = s1 at *
 rw [Cj] at h1
 simp only [ppA,List.cons_append,List.nil_append] at hg0
 obtain ⟨ak,⟨ack,ace,acks⟩,⟨aek,aen,aex,aeks⟩,⟨avk,avn,avx,avks⟩,af,an,aks⟩:=pr
 obtain ⟨qk,⟨qck,qce,qcks⟩,⟨qek,qen,qex,qeks⟩,⟨qvk,qvn,qvx,qvks⟩,qf,qn,qks⟩:=po
 simp only [paA,bR,peA,List.cons_append,List.nil_append] at hg0
 simp only [paA,bR,peA,ofB,List.length_cons,List.length_nil,Nat.reduceAdd,List.cons_append,List.nil_append] at h1
 have e300 : ((300 : Nat) : Int) = 300:=rfl
 rw [e300] at h1 h2
 by_cases c0 : 0≤s0
 ·rw [if_pos c0] at hs
  repeat' (first | (with_reducible refine hY _ ?_;clear hY Y) | ((with_reducible first | refine ar rfl (ay fun K' hK'=>aa ?_) | refine hK' _ (ab fun Y hY=>aa ?_) | refine ba rfl (ab fun Y hY=>aa ?_) | refine ab fun Y hY=>aa ?_ | refine ay fun K' hK'=>aa ?_ | refine ae tk0 bb (ab fun Y hY=>aa ?_) | refine aa ?_);(try clear hK' K');(try dsimp only [aop]);try simp only [go_sem,seval,-Int.reduceNatCast,-Int.reduceNatCast',bb,Tryz.results23,hlt',hz',hg0,hfl,g1',g2',g3',hkw,c0]) | (with_reducible first | refine ag ?_ | refine aK ?_ | refine aj ?_ | refine am ?_ | refine aF fun K hK=>?_ | refine ax ?_ | refine av ?_ | refine aR ?_ | refine ap ?_ | refine aD ?_) | (with_reducible refine hK _ ?_;clear hK K) | ((with_reducible first | refine aI ?_ ?_ | refine ai ?_ ?_);(· decide)) | (with_reducible refine br ?_ ?_;(· (try and_intros) <;> first | omega | assumption | (simp only [List.length_append,List.length_map,List.length_cons,List.length_nil] <;> omega))) | (with_reducible refine ac (h1) ?_) | (with_reducible refine ac (h2) ?_))
  refine bi [1,2,5] (by simp only [go_sem,seval,-Int.reduceNatCast,-Int.reduceNatCast'];exact rfl) ?_
  exact ih (k + 1,s1) ⟨by omega,⟨by omega,by omega⟩,hs⟩ (by show l.length - (k + 1) < l.length - k;omega)
 ·rw [if_neg c0] at hs
  repeat' (first | (with_reducible refine hY _ ?_;clear hY Y) | ((with_reducible first | refine ar rfl (ay fun K' hK'=>aa ?_) | refine hK' _ (ab fun Y hY=>aa ?_) | refine ba rfl (ab fun Y hY=>aa ?_) | refine ab fun Y hY=>aa ?_ | refine ay fun K' hK'=>aa ?_ | refine ae tk0 bb (ab fun Y hY=>aa ?_) | refine aa ?_);(try clear hK' K');(try dsimp only [aop]);try simp only [go_sem,seval,-Int.reduceNatCast,-Int.reduceNatCast',bb,Tryz.results23,hlt',hz',hg0,hfl,g1',g2',g3',hkw,c0]) | (with_reducible first | refine ag ?_ | refine aK ?_ | refine aj ?_ | refine am ?_ | refine aF fun K hK=>?_ | refine ax ?_ | refine av ?_ | refine aR ?_ | refine ap ?_ | refine aD ?_) | (with_reducible refine hK _ ?_;clear hK K) | ((with_reducible first | refine aI ?_ ?_ | refine ai ?_ ?_);(· decide)) | (with_reducible refine br ?_ ?_;(· (try and_intros) <;> first | omega | assumption | (simp only [List.length_append,List.length_map,List.length_cons,List.length_nil] <;> omega))) | (with_reducible refine ac (h1) ?_))
  refine bi [1,2,5] (by simp only [go_sem,seval,-Int.reduceNatCast,-Int.reduceNatCast'];exact rfl) ?_
  exact ih (k + 1,s0) ⟨by omega,⟨by omega,by omega⟩,hs⟩ (by show l.length - (k + 1) < l.length - k;omega)
end Go.Proofs.YtkjnkkmokojnpaaGreatDoor
