/- Which programs can be shown, in K: the document's Check. -/
import Derived.Test.YtkjnkkmokojnpaaGreatDoorZ32
import Derived.Test.YtkjnkkmokojnpaaGreatDoorZ9
import Derived.Test.YtkjnkkmokojnpaaGreatDoorZ25
import Derived.Test.YtkjnkkmokojnpaaGreatDoorZ31
namespace Go.Proofs.YtkjnkkmokojnpaaGreatDoor
set_option linter.unusedSimpArgs false
set_option linter.unusedVariables false
open Go.RowKit
def aE : Nat→List Nat
|0=>[0]
|1=>[1]
|2=>[1,3]
|3=>[1,3]
|4=>[1,3]
|5=>[1,3,4]
|6=>[]
|7=>[1,3,4]
|8=>[1,3,4,5]
|9=>[1,3,4,5]
|10=>[1,3,4,5]
|11=>[]
|12=>[1]
|13=>[1,6]
|14=>[1,6]
|15=>[1,6]
|16=>[1,6,7]
|17=>[1,6,7,8]
|18=>[]
|19=>[]
|_=>[]
set_option maxRecDepth 100000 in
set_option maxHeartbeats 16000000 in
theorem ym (hst :∀ l,Lg l→jB l→AFn Tryz.prog 51 [.sl (dU l) l.length .none] [] (.c (.bool (gW l))) []) (ps : List PP) (hps : mt ps) : AFn Tryz.prog 19 [.agg [gv ps]] [] (inA (eO ps : Int)) []:=by
 obtain ⟨hpl,hpo⟩:=hps
 unfold Lg at hpl
 have hfl:=nU ps
 obtain ⟨R,hR⟩ : ∃ R,R = eO ps:=⟨_,rfl⟩
 rw [← hR]
 unfold eO at hR
 refine aC [] Tryz.func19 rfl Tryz.ntmps19 (Nat.le_of_ble_eq_true rfl) (Nat.le_of_ble_eq_true rfl) fun w0 G0 B0 Pr hB0=>?_
 simp only [aJ,aB,List.cons_append,List.nil_append]
 repeat' (first|(with_reducible refine hY _ ?_;clear hY Y)|((with_reducible first|refine ar rfl (ay fun K' hK'=>aa ?_)|refine hK' _ (ab fun Y hY=>aa ?_));(try clear hK' K');(try dsimp only [aop]);try simp only [go_sem,seval,aE,Tryz.results19])|(with_reducible first|refine ag ?_|refine aj ?_|refine aF fun K hK=>?_)|((with_reducible refine cD 1 ?_ ?_);(· rfl))|((with_reducible refine bu 1 tk0 aE ?_ (ab fun Y hY=>aa ?_));(· rfl);(try dsimp only [aop]);try simp only [go_sem,seval,aE,Tryz.results19])|(with_reducible refine hK _ ?_;clear hK K))
 refine dH 10001 ⟨by decide,by decide⟩ rfl rfl (by simp only [go_sem,seval];exact rfl) (by simp only [go_sem,seval];exact rfl) ?_
 repeat' (first|(with_reducible refine hY _ ?_;clear hY Y)|((with_reducible first|refine ar rfl (ay fun K' hK'=>aa ?_)|refine hK' _ (ab fun Y hY=>aa ?_)|refine ae tk0 aE (ab fun Y hY=>aa ?_));(try clear hK' K');(try dsimp only [aop]);try simp only [go_sem,seval,aE,Tryz.results19])|(with_reducible first|refine ag ?_|refine aj ?_|refine am ?_|refine aF fun K hK=>?_|refine ap ?_|refine bW ?_)|(with_reducible refine hK _ ?_;clear hK K))
 refine b9 (α:=Nat) (fun k=>[(1,.rf [gv ps] 0),(3,inA (k : Int))])
  (fun k=>k≤ps.length∧∀ j (hj : j < ps.length),j < k→fp ps[j] = false) (fun k=>ps.length - k) 0 [1,3] ?_ ⟨Nat.zero_le _,fun j _ hj=>absurd hj (Nat.not_lt_zero _)⟩ ?_
 ·simp only [go_sem,seval] <;> rfl
 rintro k ⟨hk,hall⟩ ih
 by_cases hlt : k < ps.length
 ·have hlt' : ((k : Int) < (ps.length : Int)) = True:=eq_true (by omega)
  have hkw:=eB (n:=k) (by omega)
  have hg0:=mP hlt
  have hox:=hpo ps[k] (List.getElem_mem hlt)
  have hyes : fp ps[k] = true→R = 4:=fun e=>by rw [hR,vN hlt e];rfl
  have hnx : fp ps[k] = false→∀ j (hj : j < ps.length),j < k + 1→fp ps[j] = false:=ng (q:=fun x=>fp x = false) hlt hall
  generalize ps[k] = x at *
  obtain ⟨_,_,_,hpre,hpost,hbl,hbo⟩:=hox
  unfold Lg at hbl
  have c1 : AFn Tryz.prog 46 [.agg (paA x.pre),inA 100] [] (inA (dA 100 x.pre : Int)) []:=nl 100 (by decide) x.pre hpre
  have c2 : AFn Tryz.prog 46 [.agg (paA x.post),inA 100] [] (inA (dA 100 x.post : Int)) []:=nl 100 (by decide) x.post hpost
  have w1 : decide ((100 : Int) < (dA 100 x.pre : Int)) = gC 100 x.pre:=by rw [Bool.eq_iff_iff,decide_eq_true_iff,lX];omega
  have w2 : decide ((100 : Int) < (dA 100 x.post : Int)) = gC 100 x.post:=by rw [Bool.eq_iff_iff,decide_eq_true_iff,lX];omega
  unfold fp at hyes hnx
  have nP:=(dV x.pre).nm3
  have nQ:=(dV x.post).nm3
  have rP:=(dV x.pre).rn3
  have rQ:=(dV x.post).rn3
  obtain ⟨hx1,hxp,hxl,f0,f1,f2,f3,f18,f33⟩:=sI x
  generalize ppA x = XC at *
  generalize paA x.pre = PA at *
  generalize paA x.post = QA at *
  generalize gC 100 x.pre = p1 at *
  generalize gC 100 x.post = p2 at *
  generalize dA 100 x.pre = q1 at *
  generalize dA 100 x.post = q2 at *
  clear hpo hpre hpost hR hall f0 f1 f2
  repeat' (first|(with_reducible refine hY _ ?_;clear hY Y)|((with_reducible first|refine ar rfl (ay fun K' hK'=>aa ?_)|refine hK' _ (ab fun Y hY=>aa ?_)|refine ab fun Y hY=>aa ?_);(try clear hK' K');(try dsimp only [aop]);try simp only [go_sem,seval,aE,Tryz.results19,hlt',hg0,hfl,hkw,hx1,hxl])|(with_reducible first|refine ag ?_|refine aj ?_|refine aF fun K hK=>?_|refine ax ?_|refine ap ?_|refine aD ?_)|((with_reducible refine cD 5 ?_ ?_);(· rfl))|((with_reducible refine bu 5 tk0 aE ?_ (ab fun Y hY=>aa ?_));(· rfl);(try dsimp only [aop]);try simp only [go_sem,seval,aE,Tryz.results19,hlt',hg0,hfl,hkw,hx1,hxl])|(with_reducible refine hK _ ?_;clear hK K)|((with_reducible refine ai ?_ ?_);(· decide))|(with_reducible refine br ?_ ?_;(· (try and_intros) <;> first|omega|assumption|(simp only [List.length_append,List.length_map,List.length_cons,List.length_nil] <;> omega))))
  refine dH 10004 ⟨by decide,by decide⟩ rfl rfl hxp (by simp only [go_sem,seval];exact rfl) ?_
  cases p1 with
 |true =>
   clear ih hnx
   rw [hyes (by simp)]
   repeat' (first|(with_reducible refine hY _ ?_;clear hY Y)|((with_reducible first|refine ar rfl (ay fun K' hK'=>aa ?_)|refine hK' _ (ab fun Y hY=>aa ?_)|refine ba rfl (ab fun Y hY=>aa ?_)|refine ab fun Y hY=>aa ?_|refine ae tk0 aE (ab fun Y hY=>aa ?_)|refine aa ?_|refine aq ?_);(try clear hK' K');(try dsimp only [aop]);try simp only [go_sem,seval,aE,Tryz.results19,hxl,f3,f18,f33,nP,nQ,rP,rQ,hkw,w1,w2])|(with_reducible first|refine ag ?_|refine aW rfl ?_|refine dc ?_ ?_|refine aj ?_|refine am ?_|refine aF fun K hK=>?_|refine ax ?_|refine aZ ?_|refine bh ?_|refine aA ?_)|(with_reducible refine hK _ ?_;clear hK K)|((with_reducible first|refine aI ?_ ?_|refine ai ?_ ?_);(· decide))|(with_reducible refine ac (c1) ?_))
   all_goals rfl
 |false =>
   cases p2 with
  |true =>
    clear ih hnx
    rw [hyes (by simp)]
    repeat' (first|(with_reducible refine hY _ ?_;clear hY Y)|((with_reducible first|refine ar rfl (ay fun K' hK'=>aa ?_)|refine hK' _ (ab fun Y hY=>aa ?_)|refine ba rfl (ab fun Y hY=>aa ?_)|refine ab fun Y hY=>aa ?_|refine ay fun K' hK'=>aa ?_|refine ae tk0 aE (ab fun Y hY=>aa ?_)|refine aa ?_|refine aq ?_);(try clear hK' K');(try dsimp only [aop]);try simp only [go_sem,seval,aE,Tryz.results19,hxl,f3,f18,f33,nP,nQ,rP,rQ,hkw,w1,w2])|(with_reducible first|refine ag ?_|refine aK ?_|refine aj ?_|refine am ?_|refine aF fun K hK=>?_|refine ax ?_|refine aZ ?_|refine bh ?_|refine aA ?_)|(with_reducible refine hK _ ?_;clear hK K)|((with_reducible first|refine aI ?_ ?_|refine ai ?_ ?_);(· decide))|(with_reducible refine ac (c1) ?_)|(with_reducible refine ac (c2) ?_))
    all_goals rfl
  |false =>
    repeat' (first|(with_reducible refine hY _ ?_;clear hY Y)|((with_reducible first|refine ar rfl (ay fun K' hK'=>aa ?_)|refine hK' _ (ab fun Y hY=>aa ?_)|refine ba rfl (ab fun Y hY=>aa ?_)|refine ab fun Y hY=>aa ?_|refine ay fun K' hK'=>aa ?_|refine ae tk0 aE (ab fun Y hY=>aa ?_)|refine aa ?_);(try clear hK' K');(try dsimp only [aop]);try simp only [go_sem,seval,aE,Tryz.results19,hxl,f3,f18,f33,nP,nQ,rP,rQ,hkw,w1,w2])|(with_reducible first|refine ag ?_|refine aK ?_|refine aj ?_|refine am ?_|refine aF fun K hK=>?_|refine av ?_|refine ap ?_|refine aD ?_|refine bW ?_)|(with_reducible refine hK _ ?_;clear hK K)|((with_reducible first|refine aI ?_ ?_|refine ai ?_ ?_);(· decide))|(with_reducible refine ac (c1) ?_)|(with_reducible refine ac (c2) ?_))
    clear c1 c2 w1 w2
    refine b9 (α:=Nat) (fun j=>[(1,.rf [gv ps] 0),(3,inA (k : Int)),(4,.rf XC 0),(5,inA (j : Int))])
     (fun j=>j≤x.body.length∧∀ i (hi : i < x.body.length),i < j→fZ 100 x.body[i] = false) (fun j=>x.body.length - j) 0 [1,3,4,5] ?_ ⟨Nat.zero_le _,fun i _ hi=>absurd hi (Nat.not_lt_zero _)⟩ ?_
    ·simp only [go_sem,seval] <;> rfl
    rintro j ⟨hj,hjal⟩ ihj
    by_cases hjl : j < x.body.length
    ·have hjl' : ((j : Int) < (x.body.length : Int)) = True:=eq_true (by omega)
     have hjw:=eB (n:=j) (by omega)
     have hj0:=kS hjl
     have hjf:=jk x.body
     have hjo:=kl hbo x.body[j] (List.getElem_mem hjl)
     have c3 : AFn Tryz.prog 47 [.agg (psA x.body[j]),inA 100] [] (inA (dS 100 x.body[j] : Int)) []:=uz 100 (by decide) x.body[j] hjo
     have w3 : decide ((100 : Int) < (dS 100 x.body[j] : Int)) = fZ 100 x.body[j]:=by rw [Bool.eq_iff_iff,decide_eq_true_iff,oy];omega
     have hy : fZ 100 x.body[j] = true→R = 4:=fun e=>hyes (by rw [vN hjl e];rfl)
     have hn : fZ 100 x.body[j] = false→∀ i (hi : i < x.body.length),i < j + 1→fZ 100 x.body[i] = false:=ng (q:=fun s=>fZ 100 s = false) hjl hjal
     have one:=(An x.body[j]).1
     have len:=kR x.body[j]
     generalize dS 100 x.body[j] = q3 at *
     generalize fZ 100 x.body[j] = p3 at *
     have nS:=(sJ x.body[j]).nm3
     have rS:=(sJ x.body[j]).rn3
     generalize psA x.body[j] = SC at *
     clear hjo hjal hyes hnx ih
     cases p3 with
    |true =>
      clear ihj hn
      rw [hy rfl]
      repeat' (first|(with_reducible refine hY _ ?_;clear hY Y)|((with_reducible first|refine ar rfl (ay fun K' hK'=>aa ?_)|refine hK' _ (ab fun Y hY=>aa ?_)|refine ab fun Y hY=>aa ?_|refine ae tk0 aE (ab fun Y hY=>aa ?_)|refine aa ?_|refine aq ?_);(try clear hK' K');(try dsimp only [aop]);try simp only [go_sem,seval,aE,Tryz.results19,hxl,f33,hjl',hj0,hjf,hjw,one,len,nS,rS,w3])|(with_reducible first|refine ag ?_|refine aj ?_|refine am ?_|refine aF fun K hK=>?_|refine ax ?_|refine aZ ?_|refine bh ?_|refine ap ?_|refine aD ?_|refine aA ?_)|(with_reducible refine hK _ ?_;clear hK K)|((with_reducible refine ai ?_ ?_);(· decide))|(with_reducible refine br ?_ ?_;(· (try and_intros) <;> first|omega|assumption|(simp only [List.length_append,List.length_map,List.length_cons,List.length_nil] <;> omega)))|(with_reducible refine ac (c3) ?_))
      all_goals rfl
    |false =>
      repeat' (first|(with_reducible refine hY _ ?_;clear hY Y)|((with_reducible first|refine ar rfl (ay fun K' hK'=>aa ?_)|refine hK' _ (ab fun Y hY=>aa ?_)|refine ab fun Y hY=>aa ?_|refine ae tk0 aE (ab fun Y hY=>aa ?_)|refine aa ?_);(try clear hK' K');(try dsimp only [aop]);try simp only [go_sem,seval,aE,Tryz.results19,hxl,f33,hjl',hj0,hjf,hjw,one,len,nS,rS,w3])|(with_reducible first|refine ag ?_|refine aj ?_|refine am ?_|refine aF fun K hK=>?_|refine ax ?_|refine av ?_|refine aR ?_|refine ap ?_|refine aD ?_)|(with_reducible refine hK _ ?_;clear hK K)|((with_reducible refine ai ?_ ?_);(· decide))|(with_reducible refine br ?_ ?_;(· (try and_intros) <;> first|omega|assumption|(simp only [List.length_append,List.length_map,List.length_cons,List.length_nil] <;> omega)))|(with_reducible refine ac (c3) ?_))
      refine bi [1,3,4,5] (by simp only [go_sem,seval];exact rfl) ?_
      exact ihj (j + 1) ⟨by omega,hn rfl⟩ (by omega)
    have hjl' : ((j : Int) < (x.body.length : Int)) = False:=eq_false (by omega)
    have hnb : x.body.any (fZ 100) = false:=sZ fun i hi=>hjal i hi (by omega)
    clear ihj hjal hyes
    repeat' (first|(with_reducible refine hY _ ?_;clear hY Y)|((with_reducible first|refine ar rfl (ay fun K' hK'=>aa ?_)|refine hK' _ (ab fun Y hY=>aa ?_)|refine ab fun Y hY=>aa ?_|refine ae tk0 aE (ab fun Y hY=>aa ?_));(try clear hK' K');(try dsimp only [aop]);try simp only [go_sem,seval,aE,Tryz.results19,hxl,f33,hjl',hkw])|(with_reducible first|refine ag ?_|refine aj ?_|refine am ?_|refine aF fun K hK=>?_|refine av ?_|refine cf ?_|refine aR ?_|refine bI ?_|refine bH ?_)|(with_reducible refine hK _ ?_;clear hK K)|((with_reducible refine ai ?_ ?_);(· decide)))
    refine bi [1,3] (by simp only [go_sem,seval];exact rfl) ?_
    exact ih (k + 1) ⟨by omega,hnx (by rw [hnb];rfl)⟩ (by omega)
 have hlt' : ((k : Int) < (ps.length : Int)) = False:=eq_false (by omega)
 have hnd : ps.any fp = false:=sZ fun j hj=>hall j hj (by omega)
 rw [hnd,if_neg (by decide)] at hR
 clear ih hall hnd
 repeat' (first|(with_reducible refine hY _ ?_;clear hY Y)|((with_reducible first|refine ar rfl (ay fun K' hK'=>aa ?_)|refine hK' _ (ab fun Y hY=>aa ?_)|refine ab fun Y hY=>aa ?_|refine ae tk0 aE (ab fun Y hY=>aa ?_));(try clear hK' K');(try dsimp only [aop]);try simp only [go_sem,seval,aE,Tryz.results19,hlt'])|(with_reducible first|refine ag ?_|refine aj ?_|refine am ?_|refine aF fun K hK=>?_|refine av ?_|refine cf ?_|refine bI ?_|refine ap ?_|refine bH ?_|refine bW ?_)|(with_reducible refine hK _ ?_;clear hK K)|((with_reducible refine ai ?_ ?_);(· decide)))
 clear hlt hlt' hk k
 refine b9 (α:=Nat) (fun k=>[(1,.rf [gv ps] 0),(6,inA (k : Int))])
  (fun k=>k≤ps.length∧∀ j (hj : j < ps.length),j < k→fC ps[j] = true) (fun k=>ps.length - k) 0 [1,6] ?_ ⟨Nat.zero_le _,fun j _ hj=>absurd hj (Nat.not_lt_zero _)⟩ ?_
 ·simp only [go_sem,seval] <;> rfl
 rintro k ⟨hk,hall⟩ ih
 by_cases hlt : k < ps.length
 ·have hlt' : ((k : Int) < (ps.length : Int)) = True:=eq_true (by omega)
  have hkw:=eB (n:=k) (by omega)
  have hg0:=mP hlt
  have hox:=hpo ps[k] (List.getElem_mem hlt)
  have hyes : fC ps[k] = false→R = 5:=fun e=>by rw [hR,yL hlt e];rfl
  have hnx : fC ps[k] = true→∀ j (hj : j < ps.length),j < k + 1→fC ps[j] = true:=ng (q:=fun x=>fC x = true) hlt hall
  generalize ps[k] = x at *
  obtain ⟨hnm,hpr,hgh,hpre,hpost,hbl,hbo⟩:=hox
  unfold Lg at hnm
  have c1:=kU x.name (by omega)
  have c2:=oJ x.params hpr
  have c3:=oJ x.ghosts hgh
  have c4:=nj x.pre hpre
  have c5:=nj x.post hpost
  have c6:=hst x.body hbl hbo
  unfold jD at c4 c5
  unfold fC at hyes hnx
  have nP:=(dV x.pre).nm3
  have nQ:=(dV x.post).nm3
  have rP:=(dV x.pre).rn3
  have rQ:=(dV x.post).rn3
  obtain ⟨hx1,hxp,hxl,f0,f1,f2,f3,f18,f33⟩:=sI x
  generalize ppA x = XC at *
  generalize paA x.pre = PA at *
  generalize paA x.post = QA at *
  generalize dU x.body = BA at *
  generalize x.body.length = bl at *
  generalize x.params.map bs = MA at *
  generalize x.params.length = ml at *
  generalize x.ghosts.map bs = GA at *
  generalize x.ghosts.length = gl at *
  generalize dQ x.name = p1 at *
  generalize gx x.params = p2 at *
  generalize gx x.ghosts = p3 at *
  generalize seA x.pre = p4 at *
  generalize seA x.post = p5 at *
  generalize gW x.body = p6 at *
  clear hpo hpre hpost hbl hbo hR hall hnm hpr hgh
  repeat' (first|(with_reducible refine hY _ ?_;clear hY Y)|((with_reducible first|refine ar rfl (ay fun K' hK'=>aa ?_)|refine hK' _ (ab fun Y hY=>aa ?_)|refine ab fun Y hY=>aa ?_);(try clear hK' K');(try dsimp only [aop]);try simp only [go_sem,seval,aE,Tryz.results19,hlt',hg0,hfl,hkw,hx1,hxl])|(with_reducible first|refine ag ?_|refine aj ?_|refine aF fun K hK=>?_|refine ax ?_|refine ap ?_|refine aD ?_)|((with_reducible refine cD 16 ?_ ?_);(· rfl))|((with_reducible refine bu 16 tk0 aE ?_ (ab fun Y hY=>aa ?_));(· rfl);(try dsimp only [aop]);try simp only [go_sem,seval,aE,Tryz.results19,hlt',hg0,hfl,hkw,hx1,hxl])|(with_reducible refine hK _ ?_;clear hK K)|((with_reducible refine ai ?_ ?_);(· decide))|(with_reducible refine br ?_ ?_;(· (try and_intros) <;> first|omega|assumption|(simp only [List.length_append,List.length_map,List.length_cons,List.length_nil] <;> omega))))
  refine dH 10007 ⟨by decide,by decide⟩ rfl rfl hxp (by simp only [go_sem,seval];exact rfl) ?_
  cases p1 with
 |false =>
   clear ih hnx
   rw [hyes (by simp)]
   repeat' (first|(with_reducible refine hY _ ?_;clear hY Y)|((with_reducible first|refine ar rfl (ay fun K' hK'=>aa ?_)|refine hK' _ (ab fun Y hY=>aa ?_)|refine ba rfl (ab fun Y hY=>aa ?_)|refine ab fun Y hY=>aa ?_|refine ae tk0 aE (ab fun Y hY=>aa ?_)|refine aa ?_|refine aq ?_);(try clear hK' K');(try dsimp only [aop]);try simp only [go_sem,seval,aE,Tryz.results19,hxl,f0,f1,f2,f3,f18,f33,nP,nQ,rP,rQ,hkw])|(with_reducible first|refine ag ?_|refine aW rfl ?_|refine dc ?_ ?_|refine aj ?_|refine am ?_|refine aF fun K hK=>?_|refine ax ?_|refine aZ ?_|refine bh ?_|refine aA ?_)|(with_reducible refine hK _ ?_;clear hK K)|((with_reducible first|refine aI ?_ ?_|refine ai ?_ ?_);(· decide))|(with_reducible refine ac (c1) ?_))
   all_goals rfl
 |true =>
   cases p2 with
  |false =>
    clear ih hnx
    rw [hyes (by simp)]
    repeat' (first|(with_reducible refine hY _ ?_;clear hY Y)|((with_reducible first|refine ar rfl (ay fun K' hK'=>aa ?_)|refine hK' _ (ab fun Y hY=>aa ?_)|refine ba rfl (ab fun Y hY=>aa ?_)|refine ab fun Y hY=>aa ?_|refine ay fun K' hK'=>aa ?_|refine ae tk0 aE (ab fun Y hY=>aa ?_)|refine aa ?_|refine aq ?_);(try clear hK' K');(try dsimp only [aop]);try simp only [go_sem,seval,aE,Tryz.results19,hxl,f0,f1,f2,f3,f18,f33,nP,nQ,rP,rQ,hkw])|(with_reducible first|refine ag ?_|refine aW rfl ?_|refine aK ?_|refine dc ?_ ?_|refine aj ?_|refine am ?_|refine aF fun K hK=>?_|refine ax ?_|refine aZ ?_|refine bh ?_|refine aA ?_)|(with_reducible refine hK _ ?_;clear hK K)|((with_reducible first|refine aI ?_ ?_|refine ai ?_ ?_);(· decide))|(with_reducible refine ac (c1) ?_)|(with_reducible refine ac (c2) ?_))
    all_goals rfl
  |true =>
    cases p3 with
   |false =>
     clear ih hnx
     rw [hyes (by simp)]
     repeat' (first|(with_reducible refine hY _ ?_;clear hY Y)|((with_reducible first|refine ar rfl (ay fun K' hK'=>aa ?_)|refine hK' _ (ab fun Y hY=>aa ?_)|refine ba rfl (ab fun Y hY=>aa ?_)|refine ab fun Y hY=>aa ?_|refine ay fun K' hK'=>aa ?_|refine ae tk0 aE (ab fun Y hY=>aa ?_)|refine aa ?_|refine aq ?_);(try clear hK' K');(try dsimp only [aop]);try simp only [go_sem,seval,aE,Tryz.results19,hxl,f0,f1,f2,f3,f18,f33,nP,nQ,rP,rQ,hkw])|(with_reducible first|refine ag ?_|refine aW rfl ?_|refine aK ?_|refine dc ?_ ?_|refine aj ?_|refine am ?_|refine aF fun K hK=>?_|refine ax ?_|refine aZ ?_|refine bh ?_|refine aA ?_)|(with_reducible refine hK _ ?_;clear hK K)|((with_reducible first|refine aI ?_ ?_|refine ai ?_ ?_);(· decide))|(with_reducible refine ac (c1) ?_)|(with_reducible refine ac (c2) ?_)|(with_reducible refine ac (c3) ?_))
     all_goals rfl
   |true =>
     cases p4 with
    |false =>
      clear ih hnx
      rw [hyes (by simp)]
      repeat' (first|(with_reducible refine hY _ ?_;clear hY Y)|((with_reducible first|refine ar rfl (ay fun K' hK'=>aa ?_)|refine hK' _ (ab fun Y hY=>aa ?_)|refine ba rfl (ab fun Y hY=>aa ?_)|refine ab fun Y hY=>aa ?_|refine ay fun K' hK'=>aa ?_|refine ae tk0 aE (ab fun Y hY=>aa ?_)|refine aa ?_|refine aq ?_);(try clear hK' K');(try dsimp only [aop]);try simp only [go_sem,seval,aE,Tryz.results19,hxl,f0,f1,f2,f3,f18,f33,nP,nQ,rP,rQ,hkw])|(with_reducible first|refine ag ?_|refine aW rfl ?_|refine aK ?_|refine dc ?_ ?_|refine aj ?_|refine am ?_|refine aF fun K hK=>?_|refine ax ?_|refine aZ ?_|refine bh ?_|refine aA ?_)|(with_reducible refine hK _ ?_;clear hK K)|((with_reducible first|refine aI ?_ ?_|refine ai ?_ ?_);(· decide))|(with_reducible refine ac (c1) ?_)|(with_reducible refine ac (c2) ?_)|(with_reducible refine ac (c3) ?_)|(with_reducible refine ac (c4) ?_))
      all_goals rfl
    |true =>
      cases p5 with
     |false =>
       clear ih hnx
       rw [hyes (by simp)]
       repeat' (first|(with_reducible refine hY _ ?_;clear hY Y)|((with_reducible first|refine ar rfl (ay fun K' hK'=>aa ?_)|refine hK' _ (ab fun Y hY=>aa ?_)|refine ba rfl (ab fun Y hY=>aa ?_)|refine ab fun Y hY=>aa ?_|refine ay fun K' hK'=>aa ?_|refine ae tk0 aE (ab fun Y hY=>aa ?_)|refine aa ?_|refine aq ?_);(try clear hK' K');(try dsimp only [aop]);try simp only [go_sem,seval,aE,Tryz.results19,hxl,f0,f1,f2,f3,f18,f33,nP,nQ,rP,rQ,hkw])|(with_reducible first|refine ag ?_|refine aW rfl ?_|refine aK ?_|refine dc ?_ ?_|refine aj ?_|refine am ?_|refine aF fun K hK=>?_|refine ax ?_|refine aZ ?_|refine bh ?_|refine aA ?_)|(with_reducible refine hK _ ?_;clear hK K)|((with_reducible first|refine aI ?_ ?_|refine ai ?_ ?_);(· decide))|(with_reducible refine ac (c1) ?_)|(with_reducible refine ac (c2) ?_)|(with_reducible refine ac (c3) ?_)|(with_reducible refine ac (c4) ?_)|(with_reducible refine ac (c5) ?_))
       all_goals rfl
     |true =>
       cases p6 with
      |false =>
        clear ih hnx
        rw [hyes (by simp)]
        repeat' (first|(with_reducible refine hY _ ?_;clear hY Y)|((with_reducible first|refine ar rfl (ay fun K' hK'=>aa ?_)|refine hK' _ (ab fun Y hY=>aa ?_)|refine ba rfl (ab fun Y hY=>aa ?_)|refine ab fun Y hY=>aa ?_|refine ay fun K' hK'=>aa ?_|refine ae tk0 aE (ab fun Y hY=>aa ?_)|refine aa ?_|refine aq ?_);(try clear hK' K');(try dsimp only [aop]);try simp only [go_sem,seval,aE,Tryz.results19,hxl,f0,f1,f2,f3,f18,f33,nP,nQ,rP,rQ,hkw])|(with_reducible first|refine ag ?_|refine aK ?_|refine aj ?_|refine am ?_|refine aF fun K hK=>?_|refine ax ?_|refine aZ ?_|refine bh ?_|refine aA ?_)|(with_reducible refine hK _ ?_;clear hK K)|((with_reducible first|refine aI ?_ ?_|refine ai ?_ ?_);(· decide))|(with_reducible refine ac (c1) ?_)|(with_reducible refine ac (c2) ?_)|(with_reducible refine ac (c3) ?_)|(with_reducible refine ac (c4) ?_)|(with_reducible refine ac (c5) ?_)|(with_reducible refine ac (c6) ?_))
        all_goals rfl
      |true =>
        clear hyes
        repeat' (first|(with_reducible refine hY _ ?_;clear hY Y)|((with_reducible first|refine ar rfl (ay fun K' hK'=>aa ?_)|refine hK' _ (ab fun Y hY=>aa ?_)|refine ba rfl (ab fun Y hY=>aa ?_)|refine ab fun Y hY=>aa ?_|refine ay fun K' hK'=>aa ?_|refine ae tk0 aE (ab fun Y hY=>aa ?_)|refine aa ?_);(try clear hK' K');(try dsimp only [aop]);try simp only [go_sem,seval,aE,Tryz.results19,hxl,f0,f1,f2,f3,f18,f33,nP,nQ,rP,rQ,hkw])|(with_reducible first|refine ag ?_|refine aK ?_|refine aj ?_|refine am ?_|refine aF fun K hK=>?_|refine av ?_|refine aR ?_|refine aD ?_)|(with_reducible refine hK _ ?_;clear hK K)|((with_reducible first|refine aI ?_ ?_|refine ai ?_ ?_);(· decide))|(with_reducible refine ac (c1) ?_)|(with_reducible refine ac (c2) ?_)|(with_reducible refine ac (c3) ?_)|(with_reducible refine ac (c4) ?_)|(with_reducible refine ac (c5) ?_)|(with_reducible refine ac (c6) ?_))
        refine bi [1,6] (by simp only [go_sem,seval];exact rfl) ?_
        exact ih (k + 1) ⟨by omega,hnx (by simp)⟩ (by omega)
 have hlt' : ((k : Int) < (ps.length : Int)) = False:=eq_false (by omega)
 have hnd : ps.all fC = true:=wE fun j hj=>hall j hj (by omega)
 rw [hnd,if_pos rfl] at hR
 rw [hR]
 clear ih hall hnd
 repeat' (first|(with_reducible refine hY _ ?_;clear hY Y)|((with_reducible first|refine ar rfl (ay fun K' hK'=>aa ?_)|refine hK' _ (ab fun Y hY=>aa ?_)|refine ab fun Y hY=>aa ?_|refine ae tk0 aE (ab fun Y hY=>aa ?_)|refine aa ?_|refine aq ?_);(try clear hK' K');(try dsimp only [aop]);try simp only [go_sem,seval,aE,Tryz.results19,hlt'])|(with_reducible first|refine ag ?_|refine aj ?_|refine am ?_|refine aF fun K hK=>?_|refine av ?_|refine cf ?_|refine bI ?_|refine aA ?_|refine bH ?_)|(with_reducible refine hK _ ?_;clear hK K)|((with_reducible refine ai ?_ ?_);(· decide)))
 all_goals rfl
end Go.Proofs.YtkjnkkmokojnpaaGreatDoor
