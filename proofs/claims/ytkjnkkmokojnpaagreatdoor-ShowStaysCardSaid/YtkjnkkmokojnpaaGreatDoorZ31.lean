/- Which programs can be shown, in K: the code's Check. -/
import Derived.Test.YtkjnkkmokojnpaaGreatDoorZ29
import Derived.Test.YtkjnkkmokojnpaaGreatDoorZ25
import Derived.Test.YtkjnkkmokojnpaaGreatDoorZ27
import Derived.Test.YtkjnkkmokojnpaaGreatDoorZ9
namespace Go.Proofs.YtkjnkkmokojnpaaGreatDoor
set_option linter.unusedSimpArgs false
set_option linter.unusedVariables false
open Go.RowKit
theorem vN {α : Type} {q : α→Bool} {l : List α} {k : Nat} (h : k < l.length) (e : q l[k] = true) : l.any q = true:=List.any_eq_true.2 ⟨l[k],List.getElem_mem h,e⟩
theorem sZ {α : Type} {q : α→Bool} {l : List α} (h :∀ j (hj : j < l.length),q l[j] = false) : l.any q = false:=by
 rw [List.any_eq_false]
 intro x hx
 obtain ⟨j,hj,rfl⟩:=List.getElem_of_mem hx
 rw [h j hj];simp
theorem yL {α : Type} {q : α→Bool} {l : List α} {k : Nat} (h : k < l.length) (e : q l[k] = false) : l.all q = false:=List.all_eq_false.2 ⟨l[k],List.getElem_mem h,by rw [e];simp⟩
theorem wE {α : Type} {q : α→Bool} {l : List α} (h :∀ j (hj : j < l.length),q l[j] = true) : l.all q = true:=by
 rw [List.all_eq_true]
 intro x hx
 obtain ⟨j,hj,rfl⟩:=List.getElem_of_mem hx
 exact h j hj
theorem ng {α : Type} {q : α→Prop} {l : List α} {k : Nat} (h : k < l.length) (hall :∀ j (hj : j < l.length),j < k→q l[j]) (e : q l[k]) :∀ j (hj : j < l.length),j < k + 1→q l[j]:=fun j hj hjk=>by
 by_cases hj2 : j < k
 ·exact hall j hj hj2
 ·have : j = k:=by omega
  subst this;exact e
def aS : Nat→List Nat
|0=>[0]
|1=>[1]
|2=>[1,8,9,10]
|3=>[1,8,9,10]
|4=>[1,4,8,9,10]
|5=>[]
|6=>[1,8,9,10]
|7=>[1]
|8=>[30,31,32]
|9=>[30,31,32]
|10=>[6,30,31,32]
|11=>[]
|12=>[30,31,32]
|13=>[]
|_=>[]
set_option maxRecDepth 100000 in
set_option maxHeartbeats 16000000 in
theorem Cn (hst :∀ l,Lg l→jB l→AFn Tryz.prog 45 [.sl (dU l) l.length .none] [] (.c (.bool (gW l))) []) (ps : List PP) (hps : mt ps) : AFn Tryz.prog 17 [.agg [gv ps]] [] (fm (eO ps)) []:=by
 obtain ⟨hpl,hpo⟩:=hps
 unfold Lg at hpl
 have hfl:=nU ps
 obtain ⟨R,hR⟩ : ∃ R,R = eO ps:=⟨_,rfl⟩
 rw [← hR]
 unfold eO at hR
 refine aC [] Tryz.func17 rfl Tryz.ntmps17 (Nat.le_of_ble_eq_true rfl) (Nat.le_of_ble_eq_true rfl) fun w0 G0 B0 Pr hB0=>?_
 simp only [aJ,aB,List.cons_append,List.nil_append]
 repeat' (first|(with_reducible refine hY _ ?_;clear hY Y)|((with_reducible first|refine ar rfl (ay fun K' hK'=>aa ?_)|refine hK' _ (ab fun Y hY=>aa ?_));(try clear hK' K');(try dsimp only [aop]);try simp only [go_sem,seval,aS,Tryz.results17])|(with_reducible first|refine ag ?_|refine aj ?_|refine aF fun K hK=>?_)|((with_reducible refine cD 1 ?_ ?_);(· rfl))|((with_reducible refine bu 1 tk0 aS ?_ (ab fun Y hY=>aa ?_));(· rfl);(try dsimp only [aop]);try simp only [go_sem,seval,aS,Tryz.results17])|(with_reducible refine hK _ ?_;clear hK K))
 refine dH 10001 ⟨by decide,by decide⟩ rfl rfl (by simp only [go_sem,seval];exact rfl) (by simp only [go_sem,seval];exact rfl) ?_
 repeat' (first|(with_reducible refine hY _ ?_;clear hY Y)|((with_reducible first|refine ar rfl (ay fun K' hK'=>aa ?_)|refine hK' _ (ab fun Y hY=>aa ?_)|refine ae tk0 aS (ab fun Y hY=>aa ?_));(try clear hK' K');(try dsimp only [aop]);try simp only [go_sem,seval,aS,Tryz.results17])|(with_reducible first|refine ag ?_|refine aj ?_|refine am ?_|refine aF fun K hK=>?_|refine ap ?_|refine bW ?_)|(with_reducible refine hK _ ?_;clear hK K))
 refine b9 (α:=Nat) (fun k=>[(1,.rf [gv ps] 0),(8,.sl (ps.flatMap ppA) ps.length .none),(9,inA (ps.length : Int)),(10,inA (k : Int))])
  (fun k=>k≤ps.length∧∀ j (hj : j < ps.length),j < k→fp ps[j] = false) (fun k=>ps.length - k) 0 [1,8,9,10] ?_ ⟨Nat.zero_le _,fun j _ hj=>absurd hj (Nat.not_lt_zero _)⟩ ?_
 ·simp only [go_sem,seval] <;> rfl
 rintro k ⟨hk,hall⟩ ih
 by_cases hlt : k < ps.length
 ·have hlt' : ((k : Int) < (ps.length : Int)) = True:=eq_true (by omega)
  have hkw:=eB (n:=k) (by omega)
  have hg0:=mP hlt
  have hox:=hpo ps[k] (List.getElem_mem hlt)
  have hyes : fp ps[k] = true→R = 4:=fun e=>by rw [hR,vN hlt e];rfl
  have hnx : fp ps[k] = false→∀ j (hj : j < ps.length),j < k + 1→fp ps[j] = false:=ng (q:=fun x=>fp x = false) hlt hall
  generalize ps[k] = x at *
  obtain ⟨_,_,_,hpre,hpost,hbl,hbo⟩:=hox
  have c1 : AFn Tryz.prog 40 [.agg (paA x.pre),inA 100] [] (.c (.bool (gC 100 x.pre))) []:=pG 100 (by decide) x.pre hpre
  have c2 : AFn Tryz.prog 40 [.agg (paA x.post),inA 100] [] (.c (.bool (gC 100 x.post))) []:=pG 100 (by decide) x.post hpost
  have c3 : AFn Tryz.prog 41 [.sl (dU x.body) x.body.length .none,inA 100] [] (.c (.bool (x.body.any (fZ 100)))) []:=wM 100 (by decide) x.body hbl hbo
  unfold fp at hyes hnx
  have nP:=(dV x.pre).nm3
  have nQ:=(dV x.post).nm3
  have rP:=(dV x.pre).rn3
  have rQ:=(dV x.post).rn3
  obtain ⟨hx1,hxp,hxl,f0,f1,f2,f3,f18,f33⟩:=sI x
  generalize ppA x = XC at *
  generalize paA x.pre = PA at *
  generalize paA x.post = QA at *
  generalize dU x.body = BA at *
  generalize x.body.length = bl at *
  generalize gC 100 x.pre = p1 at *
  generalize gC 100 x.post = p2 at *
  generalize x.body.any (fZ 100) = p3 at *
  clear hpo hpre hpost hbl hbo hR hall f0 f1 f2
  repeat' (first|(with_reducible refine hY _ ?_;clear hY Y)|((with_reducible first|refine ar rfl (ay fun K' hK'=>aa ?_)|refine hK' _ (ab fun Y hY=>aa ?_)|refine ab fun Y hY=>aa ?_);(try clear hK' K');(try dsimp only [aop]);try simp only [go_sem,seval,aS,Tryz.results17,hlt',hg0,hfl,hkw,hx1,hxl])|(with_reducible first|refine ag ?_|refine aj ?_|refine aF fun K hK=>?_|refine ax ?_|refine ap ?_|refine aD ?_)|((with_reducible refine cD 4 ?_ ?_);(· rfl))|((with_reducible refine bu 4 tk0 aS ?_ (ab fun Y hY=>aa ?_));(· rfl);(try dsimp only [aop]);try simp only [go_sem,seval,aS,Tryz.results17,hlt',hg0,hfl,hkw,hx1,hxl])|(with_reducible refine hK _ ?_;clear hK K)|((with_reducible refine ai ?_ ?_);(· decide))|(with_reducible refine br ?_ ?_;(· (try and_intros) <;> first|omega|assumption|(simp only [List.length_append,List.length_map,List.length_cons,List.length_nil] <;> omega))))
  refine dH 10004 ⟨by decide,by decide⟩ rfl rfl hxp (by simp only [go_sem,seval];exact rfl) ?_
  cases p1 with
 |true =>
   clear ih hnx
   rw [hyes rfl,eV (e:=4) (by decide)]
   repeat' (first|(with_reducible refine hY _ ?_;clear hY Y)|((with_reducible first|refine ar rfl (ay fun K' hK'=>aa ?_)|refine hK' _ (ab fun Y hY=>aa ?_)|refine ba rfl (ab fun Y hY=>aa ?_)|refine ab fun Y hY=>aa ?_|refine ae tk0 aS (ab fun Y hY=>aa ?_)|refine aa ?_|refine aq ?_);(try clear hK' K');(try dsimp only [aop]);try simp only [go_sem,seval,aS,Tryz.results17,hxl,f3,f18,f33,nP,nQ,rP,rQ,hkw])|(with_reducible first|refine ag ?_|refine aW rfl ?_|refine dc ?_ ?_|refine aj ?_|refine am ?_|refine aF fun K hK=>?_|refine ax ?_|refine aZ ?_|refine bh ?_|refine aA ?_)|(with_reducible refine hK _ ?_;clear hK K)|((with_reducible first|refine aI ?_ ?_|refine ai ?_ ?_);(· decide))|(with_reducible refine ac (c1) ?_))
   all_goals rfl
 |false =>
   cases p2 with
  |true =>
    clear ih hnx
    rw [hyes rfl,eV (e:=4) (by decide)]
    repeat' (first|(with_reducible refine hY _ ?_;clear hY Y)|((with_reducible first|refine ar rfl (ay fun K' hK'=>aa ?_)|refine hK' _ (ab fun Y hY=>aa ?_)|refine ba rfl (ab fun Y hY=>aa ?_)|refine ab fun Y hY=>aa ?_|refine ay fun K' hK'=>aa ?_|refine ae tk0 aS (ab fun Y hY=>aa ?_)|refine aa ?_|refine aq ?_);(try clear hK' K');(try dsimp only [aop]);try simp only [go_sem,seval,aS,Tryz.results17,hxl,f3,f18,f33,nP,nQ,rP,rQ,hkw])|(with_reducible first|refine ag ?_|refine aW rfl ?_|refine aK ?_|refine dc ?_ ?_|refine aj ?_|refine am ?_|refine aF fun K hK=>?_|refine ax ?_|refine aZ ?_|refine bh ?_|refine aA ?_)|(with_reducible refine hK _ ?_;clear hK K)|((with_reducible first|refine aI ?_ ?_|refine ai ?_ ?_);(· decide))|(with_reducible refine ac (c1) ?_)|(with_reducible refine ac (c2) ?_))
    all_goals rfl
  |false =>
    cases p3 with
   |true =>
     clear ih hnx
     rw [hyes rfl,eV (e:=4) (by decide)]
     repeat' (first|(with_reducible refine hY _ ?_;clear hY Y)|((with_reducible first|refine ar rfl (ay fun K' hK'=>aa ?_)|refine hK' _ (ab fun Y hY=>aa ?_)|refine ba rfl (ab fun Y hY=>aa ?_)|refine ab fun Y hY=>aa ?_|refine ay fun K' hK'=>aa ?_|refine ae tk0 aS (ab fun Y hY=>aa ?_)|refine aa ?_|refine aq ?_);(try clear hK' K');(try dsimp only [aop]);try simp only [go_sem,seval,aS,Tryz.results17,hxl,f3,f18,f33,nP,nQ,rP,rQ,hkw])|(with_reducible first|refine ag ?_|refine aK ?_|refine aj ?_|refine am ?_|refine aF fun K hK=>?_|refine ax ?_|refine aZ ?_|refine bh ?_|refine aA ?_)|(with_reducible refine hK _ ?_;clear hK K)|((with_reducible first|refine aI ?_ ?_|refine ai ?_ ?_);(· decide))|(with_reducible refine ac (c1) ?_)|(with_reducible refine ac (c2) ?_)|(with_reducible refine ac (c3) ?_))
     all_goals rfl
   |false =>
     clear hyes
     repeat' (first|(with_reducible refine hY _ ?_;clear hY Y)|((with_reducible first|refine ar rfl (ay fun K' hK'=>aa ?_)|refine hK' _ (ab fun Y hY=>aa ?_)|refine ba rfl (ab fun Y hY=>aa ?_)|refine ab fun Y hY=>aa ?_|refine ay fun K' hK'=>aa ?_|refine ae tk0 aS (ab fun Y hY=>aa ?_)|refine aa ?_);(try clear hK' K');(try dsimp only [aop]);try simp only [go_sem,seval,aS,Tryz.results17,hxl,f3,f18,f33,nP,nQ,rP,rQ,hkw])|(with_reducible first|refine ag ?_|refine aK ?_|refine aj ?_|refine am ?_|refine aF fun K hK=>?_|refine av ?_|refine aR ?_|refine aD ?_)|(with_reducible refine hK _ ?_;clear hK K)|((with_reducible first|refine aI ?_ ?_|refine ai ?_ ?_);(· decide))|(with_reducible refine ac (c1) ?_)|(with_reducible refine ac (c2) ?_)|(with_reducible refine ac (c3) ?_))
     refine bi [1,8,9,10] (by simp only [go_sem,seval];exact rfl) ?_
     exact ih (k + 1) ⟨by omega,hnx rfl⟩ (by omega)
 have hlt' : ((k : Int) < (ps.length : Int)) = False:=eq_false (by omega)
 have hnd : ps.any fp = false:=sZ fun j hj=>hall j hj (by omega)
 rw [hnd,if_neg (by decide)] at hR
 clear ih hall hnd
 repeat' (first|(with_reducible refine hY _ ?_;clear hY Y)|((with_reducible first|refine ar rfl (ay fun K' hK'=>aa ?_)|refine hK' _ (ab fun Y hY=>aa ?_)|refine ab fun Y hY=>aa ?_|refine ae tk0 aS (ab fun Y hY=>aa ?_));(try clear hK' K');(try dsimp only [aop]);try simp only [go_sem,seval,aS,Tryz.results17,hlt'])|(with_reducible first|refine ag ?_|refine aj ?_|refine am ?_|refine aF fun K hK=>?_|refine av ?_|refine cf ?_|refine bI ?_|refine ap ?_|refine bH ?_|refine bW ?_)|(with_reducible refine hK _ ?_;clear hK K)|((with_reducible refine ai ?_ ?_);(· decide)))
 clear hlt hlt' hk k
 refine b9 (α:=Nat) (fun k=>[(30,.sl (ps.flatMap ppA) ps.length .none),(31,inA (ps.length : Int)),(32,inA (k : Int))])
  (fun k=>k≤ps.length∧∀ j (hj : j < ps.length),j < k→fC ps[j] = true) (fun k=>ps.length - k) 0 [30,31,32] ?_ ⟨Nat.zero_le _,fun j _ hj=>absurd hj (Nat.not_lt_zero _)⟩ ?_
 ·simp only [go_sem,seval] <;> rfl
 rintro k ⟨hk,hall⟩ ih
 by_cases hlt : k < ps.length
 ·have hlt' : ((k : Int) < (ps.length : Int)) = True:=eq_true (by omega)
  have hkw:=eB (n:=k) (by omega)
  have hg0:=mP hlt
  have hox:=hpo ps[k] (List.getElem_mem hlt)
  have hyes : fC ps[k] = false→R = 5:=fun e=>by rw [hR,yL hlt e];rfl
  have hnx : fC ps[k] = true→∀ j (hj : j < ps.length),j < k + 1→fC ps[j] = true:=ng (q:=fun x=>fC x = true) hlt hall
  generalize ps[k] = x at *
  obtain ⟨hnm,hpr,hgh,hpre,hpost,hbl,hbo⟩:=hox
  unfold Lg at hnm
  have c1:=ja x.name (by omega)
  have c2:=qT x.params hpr
  have c3:=qT x.ghosts hgh
  have c4:=lw x.pre hpre
  have c5:=lw x.post hpost
  have c6:=hst x.body hbl hbo
  unfold mv at c4 c5
  unfold fC at hyes hnx
  have nP:=(dV x.pre).nm3
  have nQ:=(dV x.post).nm3
  have rP:=(dV x.pre).rn3
  have rQ:=(dV x.post).rn3
  obtain ⟨hx1,hxp,hxl,f0,f1,f2,f3,f18,f33⟩:=sI x
  generalize ppA x = XC at *
  generalize paA x.pre = PA at *
  generalize paA x.post = QA at *
  generalize dU x.body = BA at *
  generalize x.body.length = bl at *
  generalize x.params.map bs = MA at *
  generalize x.params.length = ml at *
  generalize x.ghosts.map bs = GA at *
  generalize x.ghosts.length = gl at *
  generalize dQ x.name = p1 at *
  generalize gx x.params = p2 at *
  generalize gx x.ghosts = p3 at *
  generalize seA x.pre = p4 at *
  generalize seA x.post = p5 at *
  generalize gW x.body = p6 at *
  clear hpo hpre hpost hbl hbo hR hall hnm hpr hgh
  repeat' (first|(with_reducible refine hY _ ?_;clear hY Y)|((with_reducible first|refine ar rfl (ay fun K' hK'=>aa ?_)|refine hK' _ (ab fun Y hY=>aa ?_)|refine ab fun Y hY=>aa ?_);(try clear hK' K');(try dsimp only [aop]);try simp only [go_sem,seval,aS,Tryz.results17,hlt',hg0,hfl,hkw,hx1,hxl])|(with_reducible first|refine ag ?_|refine aj ?_|refine aF fun K hK=>?_|refine ax ?_|refine ap ?_|refine aD ?_)|((with_reducible refine cD 10 ?_ ?_);(· rfl))|((with_reducible refine bu 10 tk0 aS ?_ (ab fun Y hY=>aa ?_));(· rfl);(try dsimp only [aop]);try simp only [go_sem,seval,aS,Tryz.results17,hlt',hg0,hfl,hkw,hx1,hxl])|(with_reducible refine hK _ ?_;clear hK K)|((with_reducible refine ai ?_ ?_);(· decide))|(with_reducible refine br ?_ ?_;(· (try and_intros) <;> first|omega|assumption|(simp only [List.length_append,List.length_map,List.length_cons,List.length_nil] <;> omega))))
  refine dH 10006 ⟨by decide,by decide⟩ rfl rfl hxp (by simp only [go_sem,seval];exact rfl) ?_
  cases p1 with
 |false =>
   clear ih hnx
   rw [hyes (by simp),eV (e:=5) (by decide)]
   repeat' (first|(with_reducible refine hY _ ?_;clear hY Y)|((with_reducible first|refine ar rfl (ay fun K' hK'=>aa ?_)|refine hK' _ (ab fun Y hY=>aa ?_)|refine ba rfl (ab fun Y hY=>aa ?_)|refine ab fun Y hY=>aa ?_|refine ae tk0 aS (ab fun Y hY=>aa ?_)|refine aa ?_|refine aq ?_);(try clear hK' K');(try dsimp only [aop]);try simp only [go_sem,seval,aS,Tryz.results17,hxl,f0,f1,f2,f3,f18,f33,nP,nQ,rP,rQ,hkw])|(with_reducible first|refine ag ?_|refine aW rfl ?_|refine dc ?_ ?_|refine aj ?_|refine am ?_|refine aF fun K hK=>?_|refine ax ?_|refine aZ ?_|refine bh ?_|refine aA ?_)|(with_reducible refine hK _ ?_;clear hK K)|((with_reducible first|refine aI ?_ ?_|refine ai ?_ ?_);(· decide))|(with_reducible refine ac (c1) ?_))
   all_goals rfl
 |true =>
   cases p2 with
  |false =>
    clear ih hnx
    rw [hyes (by simp),eV (e:=5) (by decide)]
    repeat' (first|(with_reducible refine hY _ ?_;clear hY Y)|((with_reducible first|refine ar rfl (ay fun K' hK'=>aa ?_)|refine hK' _ (ab fun Y hY=>aa ?_)|refine ba rfl (ab fun Y hY=>aa ?_)|refine ab fun Y hY=>aa ?_|refine ay fun K' hK'=>aa ?_|refine ae tk0 aS (ab fun Y hY=>aa ?_)|refine aa ?_|refine aq ?_);(try clear hK' K');(try dsimp only [aop]);try simp only [go_sem,seval,aS,Tryz.results17,hxl,f0,f1,f2,f3,f18,f33,nP,nQ,rP,rQ,hkw])|(with_reducible first|refine ag ?_|refine aW rfl ?_|refine aK ?_|refine dc ?_ ?_|refine aj ?_|refine am ?_|refine aF fun K hK=>?_|refine ax ?_|refine aZ ?_|refine bh ?_|refine aA ?_)|(with_reducible refine hK _ ?_;clear hK K)|((with_reducible first|refine aI ?_ ?_|refine ai ?_ ?_);(· decide))|(with_reducible refine ac (c1) ?_)|(with_reducible refine ac (c2) ?_))
    all_goals rfl
  |true =>
    cases p3 with
   |false =>
     clear ih hnx
     rw [hyes (by simp),eV (e:=5) (by decide)]
     repeat' (first|(with_reducible refine hY _ ?_;clear hY Y)|((with_reducible first|refine ar rfl (ay fun K' hK'=>aa ?_)|refine hK' _ (ab fun Y hY=>aa ?_)|refine ba rfl (ab fun Y hY=>aa ?_)|refine ab fun Y hY=>aa ?_|refine ay fun K' hK'=>aa ?_|refine ae tk0 aS (ab fun Y hY=>aa ?_)|refine aa ?_|refine aq ?_);(try clear hK' K');(try dsimp only [aop]);try simp only [go_sem,seval,aS,Tryz.results17,hxl,f0,f1,f2,f3,f18,f33,nP,nQ,rP,rQ,hkw])|(with_reducible first|refine ag ?_|refine aW rfl ?_|refine aK ?_|refine dc ?_ ?_|refine aj ?_|refine am ?_|refine aF fun K hK=>?_|refine ax ?_|refine aZ ?_|refine bh ?_|refine aA ?_)|(with_reducible refine hK _ ?_;clear hK K)|((with_reducible first|refine aI ?_ ?_|refine ai ?_ ?_);(· decide))|(with_reducible refine ac (c1) ?_)|(with_reducible refine ac (c2) ?_)|(with_reducible refine ac (c3) ?_))
     all_goals rfl
   |true =>
     cases p4 with
    |false =>
      clear ih hnx
      rw [hyes (by simp),eV (e:=5) (by decide)]
      repeat' (first|(with_reducible refine hY _ ?_;clear hY Y)|((with_reducible first|refine ar rfl (ay fun K' hK'=>aa ?_)|refine hK' _ (ab fun Y hY=>aa ?_)|refine ba rfl (ab fun Y hY=>aa ?_)|refine ab fun Y hY=>aa ?_|refine ay fun K' hK'=>aa ?_|refine ae tk0 aS (ab fun Y hY=>aa ?_)|refine aa ?_|refine aq ?_);(try clear hK' K');(try dsimp only [aop]);try simp only [go_sem,seval,aS,Tryz.results17,hxl,f0,f1,f2,f3,f18,f33,nP,nQ,rP,rQ,hkw])|(with_reducible first|refine ag ?_|refine aW rfl ?_|refine aK ?_|refine dc ?_ ?_|refine aj ?_|refine am ?_|refine aF fun K hK=>?_|refine ax ?_|refine aZ ?_|refine bh ?_|refine aA ?_)|(with_reducible refine hK _ ?_;clear hK K)|((with_reducible first|refine aI ?_ ?_|refine ai ?_ ?_);(· decide))|(with_reducible refine ac (c1) ?_)|(with_reducible refine ac (c2) ?_)|(with_reducible refine ac (c3) ?_)|(with_reducible refine ac (c4) ?_))
      all_goals rfl
    |true =>
      cases p5 with
     |false =>
       clear ih hnx
       rw [hyes (by simp),eV (e:=5) (by decide)]
       repeat' (first|(with_reducible refine hY _ ?_;clear hY Y)|((with_reducible first|refine ar rfl (ay fun K' hK'=>aa ?_)|refine hK' _ (ab fun Y hY=>aa ?_)|refine ba rfl (ab fun Y hY=>aa ?_)|refine ab fun Y hY=>aa ?_|refine ay fun K' hK'=>aa ?_|refine ae tk0 aS (ab fun Y hY=>aa ?_)|refine aa ?_|refine aq ?_);(try clear hK' K');(try dsimp only [aop]);try simp only [go_sem,seval,aS,Tryz.results17,hxl,f0,f1,f2,f3,f18,f33,nP,nQ,rP,rQ,hkw])|(with_reducible first|refine ag ?_|refine aW rfl ?_|refine aK ?_|refine dc ?_ ?_|refine aj ?_|refine am ?_|refine aF fun K hK=>?_|refine ax ?_|refine aZ ?_|refine bh ?_|refine aA ?_)|(with_reducible refine hK _ ?_;clear hK K)|((with_reducible first|refine aI ?_ ?_|refine ai ?_ ?_);(· decide))|(with_reducible refine ac (c1) ?_)|(with_reducible refine ac (c2) ?_)|(with_reducible refine ac (c3) ?_)|(with_reducible refine ac (c4) ?_)|(with_reducible refine ac (c5) ?_))
       all_goals rfl
     |true =>
       cases p6 with
      |false =>
        clear ih hnx
        rw [hyes (by simp),eV (e:=5) (by decide)]
        repeat' (first|(with_reducible refine hY _ ?_;clear hY Y)|((with_reducible first|refine ar rfl (ay fun K' hK'=>aa ?_)|refine hK' _ (ab fun Y hY=>aa ?_)|refine ba rfl (ab fun Y hY=>aa ?_)|refine ab fun Y hY=>aa ?_|refine ay fun K' hK'=>aa ?_|refine ae tk0 aS (ab fun Y hY=>aa ?_)|refine aa ?_|refine aq ?_);(try clear hK' K');(try dsimp only [aop]);try simp only [go_sem,seval,aS,Tryz.results17,hxl,f0,f1,f2,f3,f18,f33,nP,nQ,rP,rQ,hkw])|(with_reducible first|refine ag ?_|refine aK ?_|refine aj ?_|refine am ?_|refine aF fun K hK=>?_|refine ax ?_|refine aZ ?_|refine bh ?_|refine aA ?_)|(with_reducible refine hK _ ?_;clear hK K)|((with_reducible first|refine aI ?_ ?_|refine ai ?_ ?_);(· decide))|(with_reducible refine ac (c1) ?_)|(with_reducible refine ac (c2) ?_)|(with_reducible refine ac (c3) ?_)|(with_reducible refine ac (c4) ?_)|(with_reducible refine ac (c5) ?_)|(with_reducible refine ac (c6) ?_))
        all_goals rfl
      |true =>
        clear hyes
        repeat' (first|(with_reducible refine hY _ ?_;clear hY Y)|((with_reducible first|refine ar rfl (ay fun K' hK'=>aa ?_)|refine hK' _ (ab fun Y hY=>aa ?_)|refine ba rfl (ab fun Y hY=>aa ?_)|refine ab fun Y hY=>aa ?_|refine ay fun K' hK'=>aa ?_|refine ae tk0 aS (ab fun Y hY=>aa ?_)|refine aa ?_);(try clear hK' K');(try dsimp only [aop]);try simp only [go_sem,seval,aS,Tryz.results17,hxl,f0,f1,f2,f3,f18,f33,nP,nQ,rP,rQ,hkw])|(with_reducible first|refine ag ?_|refine aK ?_|refine aj ?_|refine am ?_|refine aF fun K hK=>?_|refine av ?_|refine aR ?_|refine aD ?_)|(with_reducible refine hK _ ?_;clear hK K)|((with_reducible first|refine aI ?_ ?_|refine ai ?_ ?_);(· decide))|(with_reducible refine ac (c1) ?_)|(with_reducible refine ac (c2) ?_)|(with_reducible refine ac (c3) ?_)|(with_reducible refine ac (c4) ?_)|(with_reducible refine ac (c5) ?_)|(with_reducible refine ac (c6) ?_))
        refine bi [30,31,32] (by simp only [go_sem,seval];exact rfl) ?_
        exact ih (k + 1) ⟨by omega,hnx (by simp)⟩ (by omega)
 have hlt' : ((k : Int) < (ps.length : Int)) = False:=eq_false (by omega)
 have hnd : ps.all fC = true:=wE fun j hj=>hall j hj (by omega)
 rw [hnd,if_pos rfl] at hR
 rw [hR,ti]
 clear ih hall hnd
 repeat' (first|(with_reducible refine hY _ ?_;clear hY Y)|((with_reducible first|refine ar rfl (ay fun K' hK'=>aa ?_)|refine hK' _ (ab fun Y hY=>aa ?_)|refine ab fun Y hY=>aa ?_|refine ae tk0 aS (ab fun Y hY=>aa ?_)|refine aa ?_|refine aq ?_);(try clear hK' K');(try dsimp only [aop]);try simp only [go_sem,seval,aS,Tryz.results17,hlt'])|(with_reducible first|refine ag ?_|refine aj ?_|refine am ?_|refine aF fun K hK=>?_|refine av ?_|refine cf ?_|refine bI ?_|refine aA ?_|refine bH ?_)|(with_reducible refine hK _ ?_;clear hK K)|((with_reducible refine ai ?_ ?_);(· decide)))
end Go.Proofs.YtkjnkkmokojnpaaGreatDoor
