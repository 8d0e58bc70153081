/- Which statements can be shown, in K: the document's (printed by gen_st15.py). -/
import Derived.Test.YtkjnkkmokojnpaaGreatDoorZ32
import Derived.Test.YtkjnkkmokojnpaaGreatDoorZ25
import Derived.Test.YtkjnkkmokojnpaaGreatDoorZ9
namespace Go.Proofs.YtkjnkkmokojnpaaGreatDoor
set_option linter.unusedSimpArgs false
set_option linter.unusedVariables false
open Go.RowKit
abbrev lU (e : PS') : Prop:=AFn Tryz.prog 125 [.agg (psA e)] [] (.c (.bool (seS e))) []
abbrev jZ (l : List PS') : Prop:=AFn Tryz.prog 51 [.sl (dU l) l.length .none] [] (.c (.bool (gW l))) []
def cN : Nat→List Nat
|0=>[0]
|1=>[0]
|2=>[0,3]
|3=>[0,3]
|4=>[0,3]
|5=>[0,3,4]
|6=>[]
|7=>[]
|_=>[]
set_option maxRecDepth 100000 in
set_option maxHeartbeats 8000000 in
theorem mW (l : List PS') (hl : Lg l) (h :∀ e ∈ l,lU e) : jZ l:=by
 unfold Lg at hl
 unfold jZ
 refine aC [] Tryz.func51 rfl Tryz.ntmps51 (Nat.le_of_ble_eq_true rfl) (Nat.le_of_ble_eq_true rfl) fun w0 G0 B0 Pr hB0=>?_
 simp only [aJ,aB,List.cons_append,List.nil_append]
 repeat' (first|(with_reducible refine hY _ ?_;clear hY Y)|((with_reducible first|refine ar rfl (ay fun K' hK'=>aa ?_)|refine hK' _ (ab fun Y hY=>aa ?_)|refine ae tk0 cN (ab fun Y hY=>aa ?_));(try clear hK' K');(try dsimp only [aop]);try simp only [go_sem,seval,cN,Tryz.results51])|(with_reducible first|refine ag ?_|refine aj ?_|refine am ?_|refine aF fun K hK=>?_|refine ap ?_|refine bW ?_)|(with_reducible refine hK _ ?_;clear hK K))
 refine b9 (α:=Nat) (fun k=>[(0,.sl (dU l) l.length .none),(3,inA (k : Int))])
  (fun k=>k≤l.length∧∀ j (hj : j < l.length),j < k→seS l[j] = true) (fun k=>l.length - k) 0 [0,3] ?_ ⟨Nat.zero_le _,fun j _ hj=>absurd hj (Nat.not_lt_zero _)⟩ ?_
 ·simp only [go_sem,seval] <;> rfl
 rintro k ⟨hk,hall⟩ ih
 by_cases hlt : k < l.length
 ·have hlt' : ((k : Int) < (l.length : Int)) = True:=eq_true (by omega)
  have hkw:=eB (n:=k) (by omega)
  have hg0:=kS hlt
  have hfl:=jk l
  have h1:=h l[k] (List.getElem_mem hlt)
  unfold lU at h1
  have hno : seS l[k] = false→gW l = false:=fun e=>by
   rw [oe,List.all_eq_false]
   exact ⟨l[k],List.getElem_mem hlt,by rw [e];simp⟩
  have hnx : seS l[k] = true→∀ j (hj : j < l.length),j < k + 1→seS l[j] = true:=fun e j hj hjk=>by
   by_cases hj2 : j < k
   ·exact hall j hj hj2
   ·have : j = k:=by omega
    subst this;exact e
  generalize hp : seS l[k] = b at *
  generalize l[k] = t at *
  obtain ⟨tk,tx,ty,tz,⟨tek,ten,tex,teks⟩,⟨tvk,tvn,tvx,tvks⟩,⟨tck,tce,tcks⟩,⟨tak,⟨tack,tace,tacks⟩,⟨taek,taen,taex,taeks⟩,⟨tavk,tavn,tavx,tavks⟩,taf,tan,taks⟩,trs,tgs,tfs,tbd,tel⟩:=t
  simp only [psA,paA,bR,peA,List.cons_append,List.nil_append] at hg0 h1
  cases b with
 |false =>
   rw [hno rfl]
   clear ih hnx hall h
   repeat' (first|(with_reducible refine hY _ ?_;clear hY Y)|((with_reducible first|refine ar rfl (ay fun K' hK'=>aa ?_)|refine hK' _ (ab fun Y hY=>aa ?_)|refine ab fun Y hY=>aa ?_|refine ae tk0 cN (ab fun Y hY=>aa ?_)|refine aa ?_|refine aq ?_);(try clear hK' K');(try dsimp only [aop]);try simp only [go_sem,seval,cN,Tryz.results51,hlt',hfl,hg0,hkw])|(with_reducible first|refine ag ?_|refine aj ?_|refine am ?_|refine aF fun K hK=>?_|refine ax ?_|refine aZ ?_|refine bh ?_|refine ap ?_|refine aD ?_|refine aA ?_)|(with_reducible refine hK _ ?_;clear hK K)|((with_reducible refine ai ?_ ?_);(· decide))|(with_reducible refine br ?_ ?_;(· (try and_intros) <;> first|omega|assumption|(simp only [List.length_append,List.length_map,List.length_cons,List.length_nil] <;> omega)))|(with_reducible refine ac (h1) ?_))
 |true =>
   clear hno
   repeat' (first|(with_reducible refine hY _ ?_;clear hY Y)|((with_reducible first|refine ar rfl (ay fun K' hK'=>aa ?_)|refine hK' _ (ab fun Y hY=>aa ?_)|refine ab fun Y hY=>aa ?_|refine ae tk0 cN (ab fun Y hY=>aa ?_)|refine aa ?_);(try clear hK' K');(try dsimp only [aop]);try simp only [go_sem,seval,cN,Tryz.results51,hlt',hfl,hg0,hkw])|(with_reducible first|refine ag ?_|refine aj ?_|refine am ?_|refine aF fun K hK=>?_|refine ax ?_|refine av ?_|refine aR ?_|refine ap ?_|refine aD ?_)|(with_reducible refine hK _ ?_;clear hK K)|((with_reducible refine ai ?_ ?_);(· decide))|(with_reducible refine br ?_ ?_;(· (try and_intros) <;> first|omega|assumption|(simp only [List.length_append,List.length_map,List.length_cons,List.length_nil] <;> omega)))|(with_reducible refine ac (h1) ?_))
   refine bi [0,3] (by simp only [go_sem,seval];exact rfl) ?_
   exact ih (k + 1) ⟨by omega,hnx rfl⟩ (by omega)
 ·have hlt' : ((k : Int) < (l.length : Int)) = False:=eq_false (by omega)
  have hR : gW l = true:=by
   rw [oe,List.all_eq_true]
   intro x hx
   obtain ⟨j,hj,rfl⟩:=List.getElem_of_mem hx
   exact hall j hj (by omega)
  rw [hR]
  clear ih hall h
  repeat' (first|(with_reducible refine hY _ ?_;clear hY Y)|((with_reducible first|refine ar rfl (ay fun K' hK'=>aa ?_)|refine hK' _ (ab fun Y hY=>aa ?_)|refine ab fun Y hY=>aa ?_|refine ae tk0 cN (ab fun Y hY=>aa ?_)|refine aa ?_|refine aq ?_);(try clear hK' K');(try dsimp only [aop]);try simp only [go_sem,seval,cN,Tryz.results51,hlt'])|(with_reducible first|refine ag ?_|refine aj ?_|refine am ?_|refine aF fun K hK=>?_|refine av ?_|refine cf ?_|refine bI ?_|refine aA ?_|refine bH ?_)|(with_reducible refine hK _ ?_;clear hK K)|((with_reducible refine ai ?_ ?_);(· decide)))
def gM (T : Wd) : Bool × Bool × Bool × Bool × Bool × Bool × Bool × Bool × Bool × Bool:=(T.any (· == 110),T.any (· == 101),T.any (· == 102),T.any (· == 118),T.any (· == 108),T.any (· == 99),T.any (· == 97),T.any (· == 98),T.any (· == 120),T.any (· == 107))
theorem xI {α : Type} (p : α→Bool) {l : List α} {k : Nat} (h : k < l.length) : (l.take (k + 1)).any p = ((l.take k).any p || p l[k]):=by
 rw [List.take_succ_eq_append_getElem h,List.any_append];simp
def nu (fn ms xo xe : Bool) : Bool:=(fn && (!ms && !xo)) || (!fn && !xe)
def nx (fe eo eh fv vo vh : Bool) : Bool:=(fe && !eo) || ((!fe && eh) || ((fv && !vo) || (!fv && vh)))
def ny (ff fo fe : Bool) : Bool:=(ff && !fo) || (!ff && !fe)
def nz (fl lo le : Bool) : Bool:=(fl && (le || !lo)) || (!fl && !le)
def nB (fc co ch fa ao ah : Bool) : Bool:=(fc && !co) || ((!fc && ch) || ((fa && !ao) || (!fa && ah)))
def nD (fk yo ro go ye re ge : Bool) : Bool:=(fk && (!yo || (!ro || !go))) || (!fk && (!ye || (!re || !ge)))
def pz (fb bo be fx lo le : Bool) : Bool:=((fb && bo) || (!fb && be)) && ((fx && lo) || (!fx && le))
def al : Nat→List Nat
|0=>[0]
|1=>[1]
|2=>[1,3]
|3=>[]
|4=>[1,3]
|5=>[1,4]
|6=>[1,4,5]
|7=>[1,4,5,6]
|8=>[1,4,5,6,7]
|9=>[1,4,5,6,7,8]
|10=>[1,4,5,6,7,8,9]
|11=>[1,4,5,6,7,8,9,10]
|12=>[1,4,5,6,7,8,9,10,11]
|13=>[1,4,5,6,7,8,9,10,11,12]
|14=>[1,4,5,6,7,8,9,10,11,12,13]
|15=>[1,4,5,6,7,8,9,10,11,12,13,14]
|16=>[1,4,5,6,7,8,9,10,11,12,13,14,15]
|17=>[1,4,5,6,7,8,9,10,11,12,13,14,15]
|18=>[1,4,5,6,7,8,9,10,11,12,13,14,15]
|19=>[1,4,5,6,7,8,9,10,11,12,13,14,15,39]
|20=>[1,4,6,7,8,9,10,11,12,13,14,15]
|21=>[1,4,5,6,7,8,9,10,11,12,13,14,15,39]
|22=>[1,4,5,7,8,9,10,11,12,13,14,15]
|23=>[1,4,5,6,7,8,9,10,11,12,13,14,15,39]
|24=>[1,4,5,6,8,9,10,11,12,13,14,15]
|25=>[1,4,5,6,7,8,9,10,11,12,13,14,15,39]
|26=>[1,4,5,6,7,9,10,11,12,13,14,15]
|27=>[1,4,5,6,7,8,9,10,11,12,13,14,15,39]
|28=>[1,4,5,6,7,8,10,11,12,13,14,15]
|29=>[1,4,5,6,7,8,9,10,11,12,13,14,15,39]
|30=>[1,4,5,6,7,8,9,11,12,13,14,15]
|31=>[1,4,5,6,7,8,9,10,11,12,13,14,15,39]
|32=>[1,4,5,6,7,8,9,10,12,13,14,15]
|33=>[1,4,5,6,7,8,9,10,11,12,13,14,15,39]
|34=>[1,4,5,6,7,8,9,10,11,13,14,15]
|35=>[1,4,5,6,7,8,9,10,11,12,13,14,15,39]
|36=>[1,4,5,6,7,8,9,10,11,12,14,15]
|37=>[1,4,5,6,7,8,9,10,11,12,13,14,15,39]
|38=>[1,4,5,6,7,8,9,10,11,12,13,15]
|39=>[1,5,6,7,8,9,10,11,12,13,14]
|40=>[1,5,6,7,8,9,10,11,12,13,14,16]
|41=>[]
|42=>[1,6,7,8,9,10,11,12,13,14]
|43=>[]
|44=>[1,7,9,10,11,12,13,14]
|45=>[]
|46=>[1,9,10,11,12,13,14]
|47=>[]
|48=>[1,10,11,12,13,14]
|49=>[]
|50=>[1,12,13,14]
|51=>[]
|52=>[1,12,13]
|_=>[]
set_option maxRecDepth 100000 in
set_option maxHeartbeats 32000000 in
theorem AD (k : Int) (x f y : Wd) (e v : PE) (c : PC) (a : PA) (rs gs : List PE) (fs : List Wd) (b l : List PS') (ho : OkS (.mk k x f y e v c a rs gs fs b l)) (hbd : jZ b) (hel : jZ l) : lU (.mk k x f y e v c a rs gs fs b l):=by
 obtain ⟨_,hx,hf,hy,he,hv,hc,ha,⟨hrs,hro⟩,⟨hgs,hgo⟩,hfs,⟨hbl,_⟩,hll,_⟩:=ho
 unfold lU
 unfold jZ at hbd hel
 unfold Lg at hx hf hy
 have c1:=kU x (by omega)
 have c2:=lC e he
 have c3:=kh e
 have c4:=lC v hv
 have c5:=kh v
 have c6:=kU f (by omega)
 have c7:=oJ fs hfs
 have c8:=qs c hc
 have c9:=qG c
 have c10:=nj a ha
 have c11:=zF a
 have c12:=kU y (by omega)
 have c13:=oB rs hrs hro
 have c14:=oB gs hgs hgo
 unfold jG at c2 c4
 unfold jE at c8
 unfold jD at c10
 unfold Lg at hrs hgs hbl hll
 have hfl:=hfs.1
 unfold Lg at hfl
 clear hx hf hy he hv hc ha hro hgo hfs
 obtain ⟨R,hR⟩ : ∃ R,R = seS (.mk k x f y e v c a rs gs fs b l):=⟨_,rfl⟩
 rw [← hR]
 rw [seS] at hR
 generalize dQ x = p1 at *
 generalize seE e = p2 at *
 generalize dG e = p3 at *
 generalize seE v = p4 at *
 generalize dG v = p5 at *
 generalize dQ f = p6 at *
 generalize gx fs = p7 at *
 generalize seC c = p8 at *
 generalize fi c = p9 at *
 generalize seA a = p10 at *
 generalize fP a = p11 at *
 generalize dQ y = p12 at *
 generalize gV rs = p13 at *
 generalize gV gs = p14 at *
 generalize gW b = p15 at *
 generalize gW l = p16 at *
 have nE:=(cQ e).nm3
 have nV:=(cQ v).nm3
 have nC:=(dv c).nm3
 have nA:=(dV a).nm3
 have rE:=(cQ e).rn3
 have rV:=(cQ v).rn3
 have rC:=(dv c).rn3
 have rA:=(dV a).rn3
 obtain ⟨one,pu,len,g0,g1,g2,g3,s4,s8,s12,s15,g30,g31,g32,g33,g34⟩:=gL k x f y e v c a rs gs fs b l
 generalize psA (.mk k x f y e v c a rs gs fs b l) = SC at *
 generalize peA e = EA at *
 generalize peA v = VA at *
 generalize bR c = CA at *
 generalize paA a = AA at *
 generalize bY rs = RA at *
 generalize bY gs = GA at *
 generalize dU b = BA at *
 generalize dU l = LA at *
 generalize fs.map bs = FA at *
 refine aC [] Tryz.func125 rfl Tryz.ntmps125 (Nat.le_of_ble_eq_true rfl) (Nat.le_of_ble_eq_true rfl) fun w0 G0 B0 Pr hB0=>?_
 simp only [aJ,aB,List.cons_append,List.nil_append]
 repeat' (first|(with_reducible refine hY _ ?_;clear hY Y)|((with_reducible first|refine ar rfl (ay fun K' hK'=>aa ?_)|refine hK' _ (ab fun Y hY=>aa ?_));(try clear hK' K');(try dsimp only [aop]);try simp only [go_sem,seval,al,Tryz.results125,one])|(with_reducible first|refine ag ?_|refine aj ?_|refine aF fun K hK=>?_)|((with_reducible refine cD 1 ?_ ?_);(· rfl))|((with_reducible refine bu 1 tk0 al ?_ (ab fun Y hY=>aa ?_));(· rfl);(try dsimp only [aop]);try simp only [go_sem,seval,al,Tryz.results125,one])|(with_reducible refine hK _ ?_;clear hK K))
 refine dH 10001 ⟨by decide,by decide⟩ rfl rfl pu (by simp only [go_sem,seval];exact rfl) ?_
 apply jR (α:=Wd) (fun T=>[(1,.rf SC 0),(4,bs T)])
  (fun T=>T.length≤3∧match gM T with|(fn,fe,ff,fv,fl,fc,fa,fb,fx,fk)=>R = (!nu fn (decide (k = 9) && x.isEmpty) p1 x.isEmpty && (!nx fe p2 p3 fv p4 p5 && (!ny ff p6 f.isEmpty && (!nz fl p7 fs.isEmpty && (!nB fc p8 p9 fa p10 p11 && (!nD fk p12 p13 p14 y.isEmpty rs.isEmpty gs.isEmpty && pz fb p15 b.isEmpty fx p16 l.isEmpty)))))))
 case use =>
  intro key
  by_cases gk0 : k < 0
  ·have hF : R = false:=by rw [hR];simp only [show ¬ k = 0 by omega,show ¬ k = 1 by omega,show ¬ k = 2 by omega,show ¬ k = 3 by omega,show ¬ k = 4 by omega,show ¬ k = 5 by omega,show ¬ k = 6 by omega,show ¬ k = 7 by omega,show ¬ k = 8 by omega,show ¬ k = 9 by omega,if_false]
   rw [hF]
   clear key
   have g0' : (k < 0) = True:=eq_true gk0
   repeat' (first|(with_reducible refine hY _ ?_;clear hY Y)|((with_reducible first|refine ar rfl (ay fun K' hK'=>aa ?_)|refine hK' _ (ab fun Y hY=>aa ?_)|refine ba rfl (ab fun Y hY=>aa ?_)|refine ab fun Y hY=>aa ?_|refine ae tk0 al (ab fun Y hY=>aa ?_)|refine aa ?_|refine aq ?_);(try clear hK' K');(try dsimp only [aop]);try simp only [go_sem,seval,al,Tryz.results125,g0,len,g0'])|(with_reducible first|refine ag ?_|refine aW rfl ?_|refine dc ?_ ?_|refine aj ?_|refine am ?_|refine aF fun K hK=>?_|refine ax ?_|refine aZ ?_|refine aA ?_)|(with_reducible refine hK _ ?_;clear hK K)|((with_reducible first|refine aI ?_ ?_|refine ai ?_ ?_);(· decide)))
  by_cases g9 : 9 < k
  ·have hF : R = false:=by rw [hR];simp only [show ¬ k = 0 by omega,show ¬ k = 1 by omega,show ¬ k = 2 by omega,show ¬ k = 3 by omega,show ¬ k = 4 by omega,show ¬ k = 5 by omega,show ¬ k = 6 by omega,show ¬ k = 7 by omega,show ¬ k = 8 by omega,show ¬ k = 9 by omega,if_false]
   rw [hF]
   clear key
   have g0' : (k < 0) = False:=eq_false gk0
   have g9' : (9 < k) = True:=eq_true g9
   repeat' (first|(with_reducible refine hY _ ?_;clear hY Y)|((with_reducible first|refine ar rfl (ay fun K' hK'=>aa ?_)|refine hK' _ (ab fun Y hY=>aa ?_)|refine ba rfl (ab fun Y hY=>aa ?_)|refine ab fun Y hY=>aa ?_|refine ay fun K' hK'=>aa ?_|refine ae tk0 al (ab fun Y hY=>aa ?_)|refine aa ?_|refine aq ?_);(try clear hK' K');(try dsimp only [aop]);try simp only [go_sem,seval,al,Tryz.results125,g0,len,g0',g9'])|(with_reducible first|refine ag ?_|refine aK ?_|refine aj ?_|refine am ?_|refine aF fun K hK=>?_|refine ax ?_|refine aZ ?_|refine aA ?_)|(with_reducible refine hK _ ?_;clear hK K)|((with_reducible first|refine aI ?_ ?_|refine ai ?_ ?_);(· decide)))
  by_cases k0 : k = 0
  ·have g0i : SC.getD 0 .u = inA 0:=by rw [g0,k0]
   have hf : gM [] = (false,false,false,false,false,false,false,false,false,false):=rfl
   repeat' (first|(with_reducible refine hY _ ?_;clear hY Y)|((with_reducible first|refine ar rfl (ay fun K' hK'=>aa ?_)|refine hK' _ (ab fun Y hY=>aa ?_)|refine ba rfl (ab fun Y hY=>aa ?_)|refine ab fun Y hY=>aa ?_|refine ay fun K' hK'=>aa ?_);(try clear hK' K');(try dsimp only [aop]);try simp only [go_sem,seval,al,Tryz.results125,g0i,len])|(with_reducible first|refine ag ?_|refine aK ?_|refine aj ?_|refine aF fun K hK=>?_|refine av ?_|refine aD ?_)|((with_reducible refine cD 5 ?_ ?_);(· rfl))|((with_reducible refine bu 5 tk0 al ?_ (ab fun Y hY=>aa ?_));(· rfl);(try dsimp only [aop]);try simp only [go_sem,seval,al,Tryz.results125,g0i,len])|(with_reducible refine hK _ ?_;clear hK K)|((with_reducible first|refine aI ?_ ?_|refine ai ?_ ?_);(· decide))|(with_reducible refine br ?_ ?_;(· (try and_intros) <;> first|omega|assumption|(simp only [List.length_append,List.length_map,List.length_cons,List.length_nil] <;> omega))))
   refine dm (L:=[1,4]) (by simp only [go_sem,seval];exact rfl) ?_
   refine mw (key [] ⟨by decide,by rw [hf];show R = _;rw [hR];simp only [k0,reduceCtorEq,Int.reduceEq,if_true,if_false];clear key hR;revert p1 p2 p3 p4 p5 p6 p7 p8 p9 p10 p11 p12 p13 p14 p15 p16;intros;simp only [nu,nx,ny,nz,nB,nD,pz,decide_true,decide_false,reduceCtorEq,Int.reduceEq,Bool.true_and,Bool.false_and,Bool.not_true,Bool.not_false,Bool.or_false,Bool.false_or,Bool.not_and,Bool.not_or,Bool.not_not];ac_rfl⟩) rfl
  by_cases k1 : k = 1
  ·have g0i : SC.getD 0 .u = inA 1:=by rw [g0,k1]
   have hf : gM [110,101] = (true,true,false,false,false,false,false,false,false,false):=rfl
   repeat' (first|(with_reducible refine hY _ ?_;clear hY Y)|((with_reducible first|refine ar rfl (ay fun K' hK'=>aa ?_)|refine hK' _ (ab fun Y hY=>aa ?_)|refine ba rfl (ab fun Y hY=>aa ?_)|refine ab fun Y hY=>aa ?_|refine ay fun K' hK'=>aa ?_);(try clear hK' K');(try dsimp only [aop]);try simp only [go_sem,seval,al,Tryz.results125,g0i,len])|(with_reducible first|refine ag ?_|refine aK ?_|refine aj ?_|refine aF fun K hK=>?_|refine av ?_|refine aD ?_)|((with_reducible refine cD 5 ?_ ?_);(· rfl))|((with_reducible refine bu 5 tk0 al ?_ (ab fun Y hY=>aa ?_));(· rfl);(try dsimp only [aop]);try simp only [go_sem,seval,al,Tryz.results125,g0i,len])|(with_reducible refine hK _ ?_;clear hK K)|((with_reducible first|refine aI ?_ ?_|refine ai ?_ ?_);(· decide))|(with_reducible refine br ?_ ?_;(· (try and_intros) <;> first|omega|assumption|(simp only [List.length_append,List.length_map,List.length_cons,List.length_nil] <;> omega))))
   refine dm (L:=[1,4]) (by simp only [go_sem,seval];exact rfl) ?_
   refine mw (key [110,101] ⟨by decide,by rw [hf];show R = _;rw [hR];simp only [k1,reduceCtorEq,Int.reduceEq,if_true,if_false];clear key hR;revert p1 p2 p3 p4 p5 p6 p7 p8 p9 p10 p11 p12 p13 p14 p15 p16;intros;simp only [nu,nx,ny,nz,nB,nD,pz,decide_true,decide_false,reduceCtorEq,Int.reduceEq,Bool.true_and,Bool.false_and,Bool.not_true,Bool.not_false,Bool.or_false,Bool.false_or,Bool.not_and,Bool.not_or,Bool.not_not];ac_rfl⟩) rfl
  by_cases k2 : k = 2
  ·have g0i : SC.getD 0 .u = inA 2:=by rw [g0,k2]
   have hf : gM [110,101,102] = (true,true,true,false,false,false,false,false,false,false):=rfl
   repeat' (first|(with_reducible refine hY _ ?_;clear hY Y)|((with_reducible first|refine ar rfl (ay fun K' hK'=>aa ?_)|refine hK' _ (ab fun Y hY=>aa ?_)|refine ba rfl (ab fun Y hY=>aa ?_)|refine ab fun Y hY=>aa ?_|refine ay fun K' hK'=>aa ?_);(try clear hK' K');(try dsimp only [aop]);try simp only [go_sem,seval,al,Tryz.results125,g0i,len])|(with_reducible first|refine ag ?_|refine aK ?_|refine aj ?_|refine aF fun K hK=>?_|refine av ?_|refine aD ?_)|((with_reducible refine cD 5 ?_ ?_);(· rfl))|((with_reducible refine bu 5 tk0 al ?_ (ab fun Y hY=>aa ?_));(· rfl);(try dsimp only [aop]);try simp only [go_sem,seval,al,Tryz.results125,g0i,len])|(with_reducible refine hK _ ?_;clear hK K)|((with_reducible first|refine aI ?_ ?_|refine ai ?_ ?_);(· decide))|(with_reducible refine br ?_ ?_;(· (try and_intros) <;> first|omega|assumption|(simp only [List.length_append,List.length_map,List.length_cons,List.length_nil] <;> omega))))
   refine dm (L:=[1,4]) (by simp only [go_sem,seval];exact rfl) ?_
   refine mw (key [110,101,102] ⟨by decide,by rw [hf];show R = _;rw [hR];simp only [k2,reduceCtorEq,Int.reduceEq,if_true,if_false];clear key hR;revert p1 p2 p3 p4 p5 p6 p7 p8 p9 p10 p11 p12 p13 p14 p15 p16;intros;simp only [nu,nx,ny,nz,nB,nD,pz,decide_true,decide_false,reduceCtorEq,Int.reduceEq,Bool.true_and,Bool.false_and,Bool.not_true,Bool.not_false,Bool.or_false,Bool.false_or,Bool.not_and,Bool.not_or,Bool.not_not];ac_rfl⟩) rfl
  by_cases k3 : k = 3
  ·have g0i : SC.getD 0 .u = inA 3:=by rw [g0,k3]
   have hf : gM [101,102,118] = (false,true,true,true,false,false,false,false,false,false):=rfl
   repeat' (first|(with_reducible refine hY _ ?_;clear hY Y)|((with_reducible first|refine ar rfl (ay fun K' hK'=>aa ?_)|refine hK' _ (ab fun Y hY=>aa ?_)|refine ba rfl (ab fun Y hY=>aa ?_)|refine ab fun Y hY=>aa ?_|refine ay fun K' hK'=>aa ?_);(try clear hK' K');(try dsimp only [aop]);try simp only [go_sem,seval,al,Tryz.results125,g0i,len])|(with_reducible first|refine ag ?_|refine aK ?_|refine aj ?_|refine aF fun K hK=>?_|refine av ?_|refine aD ?_)|((with_reducible refine cD 5 ?_ ?_);(· rfl))|((with_reducible refine bu 5 tk0 al ?_ (ab fun Y hY=>aa ?_));(· rfl);(try dsimp only [aop]);try simp only [go_sem,seval,al,Tryz.results125,g0i,len])|(with_reducible refine hK _ ?_;clear hK K)|((with_reducible first|refine aI ?_ ?_|refine ai ?_ ?_);(· decide))|(with_reducible refine br ?_ ?_;(· (try and_intros) <;> first|omega|assumption|(simp only [List.length_append,List.length_map,List.length_cons,List.length_nil] <;> omega))))
   refine dm (L:=[1,4]) (by simp only [go_sem,seval];exact rfl) ?_
   refine mw (key [101,102,118] ⟨by decide,by rw [hf];show R = _;rw [hR];simp only [k3,reduceCtorEq,Int.reduceEq,if_true,if_false];clear key hR;revert p1 p2 p3 p4 p5 p6 p7 p8 p9 p10 p11 p12 p13 p14 p15 p16;intros;simp only [nu,nx,ny,nz,nB,nD,pz,decide_true,decide_false,reduceCtorEq,Int.reduceEq,Bool.true_and,Bool.false_and,Bool.not_true,Bool.not_false,Bool.or_false,Bool.false_or,Bool.not_and,Bool.not_or,Bool.not_not];ac_rfl⟩) rfl
  by_cases k4 : k = 4
  ·have g0i : SC.getD 0 .u = inA 4:=by rw [g0,k4]
   have hf : gM [110,108] = (true,false,false,false,true,false,false,false,false,false):=rfl
   repeat' (first|(with_reducible refine hY _ ?_;clear hY Y)|((with_reducible first|refine ar rfl (ay fun K' hK'=>aa ?_)|refine hK' _ (ab fun Y hY=>aa ?_)|refine ba rfl (ab fun Y hY=>aa ?_)|refine ab fun Y hY=>aa ?_|refine ay fun K' hK'=>aa ?_);(try clear hK' K');(try dsimp only [aop]);try simp only [go_sem,seval,al,Tryz.results125,g0i,len])|(with_reducible first|refine ag ?_|refine aK ?_|refine aj ?_|refine aF fun K hK=>?_|refine av ?_|refine aD ?_)|((with_reducible refine cD 5 ?_ ?_);(· rfl))|((with_reducible refine bu 5 tk0 al ?_ (ab fun Y hY=>aa ?_));(· rfl);(try dsimp only [aop]);try simp only [go_sem,seval,al,Tryz.results125,g0i,len])|(with_reducible refine hK _ ?_;clear hK K)|((with_reducible first|refine aI ?_ ?_|refine ai ?_ ?_);(· decide))|(with_reducible refine br ?_ ?_;(· (try and_intros) <;> first|omega|assumption|(simp only [List.length_append,List.length_map,List.length_cons,List.length_nil] <;> omega))))
   refine dm (L:=[1,4]) (by simp only [go_sem,seval];exact rfl) ?_
   refine mw (key [110,108] ⟨by decide,by rw [hf];show R = _;rw [hR];simp only [k4,reduceCtorEq,Int.reduceEq,if_true,if_false];clear key hR;revert p1 p2 p3 p4 p5 p6 p7 p8 p9 p10 p11 p12 p13 p14 p15 p16;intros;simp only [nu,nx,ny,nz,nB,nD,pz,decide_true,decide_false,reduceCtorEq,Int.reduceEq,Bool.true_and,Bool.false_and,Bool.not_true,Bool.not_false,Bool.or_false,Bool.false_or,Bool.not_and,Bool.not_or,Bool.not_not];ac_rfl⟩) rfl
  by_cases k5 : k = 5
  ·have g0i : SC.getD 0 .u = inA 5:=by rw [g0,k5]
   have hf : gM [101,102] = (false,true,true,false,false,false,false,false,false,false):=rfl
   repeat' (first|(with_reducible refine hY _ ?_;clear hY Y)|((with_reducible first|refine ar rfl (ay fun K' hK'=>aa ?_)|refine hK' _ (ab fun Y hY=>aa ?_)|refine ba rfl (ab fun Y hY=>aa ?_)|refine ab fun Y hY=>aa ?_|refine ay fun K' hK'=>aa ?_);(try clear hK' K');(try dsimp only [aop]);try simp only [go_sem,seval,al,Tryz.results125,g0i,len])|(with_reducible first|refine ag ?_|refine aK ?_|refine aj ?_|refine aF fun K hK=>?_|refine av ?_|refine aD ?_)|((with_reducible refine cD 5 ?_ ?_);(· rfl))|((with_reducible refine bu 5 tk0 al ?_ (ab fun Y hY=>aa ?_));(· rfl);(try dsimp only [aop]);try simp only [go_sem,seval,al,Tryz.results125,g0i,len])|(with_reducible refine hK _ ?_;clear hK K)|((with_reducible first|refine aI ?_ ?_|refine ai ?_ ?_);(· decide))|(with_reducible refine br ?_ ?_;(· (try and_intros) <;> first|omega|assumption|(simp only [List.length_append,List.length_map,List.length_cons,List.length_nil] <;> omega))))
   refine dm (L:=[1,4]) (by simp only [go_sem,seval];exact rfl) ?_
   refine mw (key [101,102] ⟨by decide,by rw [hf];show R = _;rw [hR];simp only [k5,reduceCtorEq,Int.reduceEq,if_true,if_false];clear key hR;revert p1 p2 p3 p4 p5 p6 p7 p8 p9 p10 p11 p12 p13 p14 p15 p16;intros;simp only [nu,nx,ny,nz,nB,nD,pz,decide_true,decide_false,reduceCtorEq,Int.reduceEq,Bool.true_and,Bool.false_and,Bool.not_true,Bool.not_false,Bool.or_false,Bool.false_or,Bool.not_and,Bool.not_or,Bool.not_not];ac_rfl⟩) rfl
  by_cases k6 : k = 6
  ·have g0i : SC.getD 0 .u = inA 6:=by rw [g0,k6]
   have hf : gM [99,98,120] = (false,false,false,false,false,true,false,true,true,false):=rfl
   repeat' (first|(with_reducible refine hY _ ?_;clear hY Y)|((with_reducible first|refine ar rfl (ay fun K' hK'=>aa ?_)|refine hK' _ (ab fun Y hY=>aa ?_)|refine ba rfl (ab fun Y hY=>aa ?_)|refine ab fun Y hY=>aa ?_|refine ay fun K' hK'=>aa ?_);(try clear hK' K');(try dsimp only [aop]);try simp only [go_sem,seval,al,Tryz.results125,g0i,len])|(with_reducible first|refine ag ?_|refine aK ?_|refine aj ?_|refine aF fun K hK=>?_|refine av ?_|refine aD ?_)|((with_reducible refine cD 5 ?_ ?_);(· rfl))|((with_reducible refine bu 5 tk0 al ?_ (ab fun Y hY=>aa ?_));(· rfl);(try dsimp only [aop]);try simp only [go_sem,seval,al,Tryz.results125,g0i,len])|(with_reducible refine hK _ ?_;clear hK K)|((with_reducible first|refine aI ?_ ?_|refine ai ?_ ?_);(· decide))|(with_reducible refine br ?_ ?_;(· (try and_intros) <;> first|omega|assumption|(simp only [List.length_append,List.length_map,List.length_cons,List.length_nil] <;> omega))))
   refine dm (L:=[1,4]) (by simp only [go_sem,seval];exact rfl) ?_
   refine mw (key [99,98,120] ⟨by decide,by rw [hf];show R = _;rw [hR];simp only [k6,reduceCtorEq,Int.reduceEq,if_true,if_false];clear key hR;revert p1 p2 p3 p4 p5 p6 p7 p8 p9 p10 p11 p12 p13 p14 p15 p16;intros;simp only [nu,nx,ny,nz,nB,nD,pz,decide_true,decide_false,reduceCtorEq,Int.reduceEq,Bool.true_and,Bool.false_and,Bool.not_true,Bool.not_false,Bool.or_false,Bool.false_or,Bool.not_and,Bool.not_or,Bool.not_not];ac_rfl⟩) rfl
  by_cases k7 : k = 7
  ·have g0i : SC.getD 0 .u = inA 7:=by rw [g0,k7]
   have hf : gM [99,97,98] = (false,false,false,false,false,true,true,true,false,false):=rfl
   repeat' (first|(with_reducible refine hY _ ?_;clear hY Y)|((with_reducible first|refine ar rfl (ay fun K' hK'=>aa ?_)|refine hK' _ (ab fun Y hY=>aa ?_)|refine ba rfl (ab fun Y hY=>aa ?_)|refine ab fun Y hY=>aa ?_|refine ay fun K' hK'=>aa ?_);(try clear hK' K');(try dsimp only [aop]);try simp only [go_sem,seval,al,Tryz.results125,g0i,len])|(with_reducible first|refine ag ?_|refine aK ?_|refine aj ?_|refine aF fun K hK=>?_|refine av ?_|refine aD ?_)|((with_reducible refine cD 5 ?_ ?_);(· rfl))|((with_reducible refine bu 5 tk0 al ?_ (ab fun Y hY=>aa ?_));(· rfl);(try dsimp only [aop]);try simp only [go_sem,seval,al,Tryz.results125,g0i,len])|(with_reducible refine hK _ ?_;clear hK K)|((with_reducible first|refine aI ?_ ?_|refine ai ?_ ?_);(· decide))|(with_reducible refine br ?_ ?_;(· (try and_intros) <;> first|omega|assumption|(simp only [List.length_append,List.length_map,List.length_cons,List.length_nil] <;> omega))))
   refine dm (L:=[1,4]) (by simp only [go_sem,seval];exact rfl) ?_
   refine mw (key [99,97,98] ⟨by decide,by rw [hf];show R = _;rw [hR];simp only [k7,reduceCtorEq,Int.reduceEq,if_true,if_false];clear key hR;revert p1 p2 p3 p4 p5 p6 p7 p8 p9 p10 p11 p12 p13 p14 p15 p16;intros;simp only [nu,nx,ny,nz,nB,nD,pz,decide_true,decide_false,reduceCtorEq,Int.reduceEq,Bool.true_and,Bool.false_and,Bool.not_true,Bool.not_false,Bool.or_false,Bool.false_or,Bool.not_and,Bool.not_or,Bool.not_not];ac_rfl⟩) rfl
  by_cases k8 : k = 8
  ·have g0i : SC.getD 0 .u = inA 8:=by rw [g0,k8]
   have hf : gM [99] = (false,false,false,false,false,true,false,false,false,false):=rfl
   repeat' (first|(with_reducible refine hY _ ?_;clear hY Y)|((with_reducible first|refine ar rfl (ay fun K' hK'=>aa ?_)|refine hK' _ (ab fun Y hY=>aa ?_)|refine ba rfl (ab fun Y hY=>aa ?_)|refine ab fun Y hY=>aa ?_|refine ay fun K' hK'=>aa ?_);(try clear hK' K');(try dsimp only [aop]);try simp only [go_sem,seval,al,Tryz.results125,g0i,len])|(with_reducible first|refine ag ?_|refine aK ?_|refine aj ?_|refine aF fun K hK=>?_|refine av ?_|refine aD ?_)|((with_reducible refine cD 5 ?_ ?_);(· rfl))|((with_reducible refine bu 5 tk0 al ?_ (ab fun Y hY=>aa ?_));(· rfl);(try dsimp only [aop]);try simp only [go_sem,seval,al,Tryz.results125,g0i,len])|(with_reducible refine hK _ ?_;clear hK K)|((with_reducible first|refine aI ?_ ?_|refine ai ?_ ?_);(· decide))|(with_reducible refine br ?_ ?_;(· (try and_intros) <;> first|omega|assumption|(simp only [List.length_append,List.length_map,List.length_cons,List.length_nil] <;> omega))))
   refine dm (L:=[1,4]) (by simp only [go_sem,seval];exact rfl) ?_
   refine mw (key [99] ⟨by decide,by rw [hf];show R = _;rw [hR];simp only [k8,reduceCtorEq,Int.reduceEq,if_true,if_false];clear key hR;revert p1 p2 p3 p4 p5 p6 p7 p8 p9 p10 p11 p12 p13 p14 p15 p16;intros;simp only [nu,nx,ny,nz,nB,nD,pz,decide_true,decide_false,reduceCtorEq,Int.reduceEq,Bool.true_and,Bool.false_and,Bool.not_true,Bool.not_false,Bool.or_false,Bool.false_or,Bool.not_and,Bool.not_or,Bool.not_not];ac_rfl⟩) rfl
  by_cases k9 : k = 9
  ·have g0i : SC.getD 0 .u = inA 9:=by rw [g0,k9]
   have hf : gM [110,107] = (true,false,false,false,false,false,false,false,false,true):=rfl
   repeat' (first|(with_reducible refine hY _ ?_;clear hY Y)|((with_reducible first|refine ar rfl (ay fun K' hK'=>aa ?_)|refine hK' _ (ab fun Y hY=>aa ?_)|refine ba rfl (ab fun Y hY=>aa ?_)|refine ab fun Y hY=>aa ?_|refine ay fun K' hK'=>aa ?_);(try clear hK' K');(try dsimp only [aop]);try simp only [go_sem,seval,al,Tryz.results125,g0i,len])|(with_reducible first|refine ag ?_|refine aK ?_|refine aj ?_|refine aF fun K hK=>?_|refine av ?_|refine aD ?_)|((with_reducible refine cD 5 ?_ ?_);(· rfl))|((with_reducible refine bu 5 tk0 al ?_ (ab fun Y hY=>aa ?_));(· rfl);(try dsimp only [aop]);try simp only [go_sem,seval,al,Tryz.results125,g0i,len])|(with_reducible refine hK _ ?_;clear hK K)|((with_reducible first|refine aI ?_ ?_|refine ai ?_ ?_);(· decide))|(with_reducible refine br ?_ ?_;(· (try and_intros) <;> first|omega|assumption|(simp only [List.length_append,List.length_map,List.length_cons,List.length_nil] <;> omega))))
   refine dm (L:=[1,4]) (by simp only [go_sem,seval];exact rfl) ?_
   refine mw (key [110,107] ⟨by decide,by rw [hf];show R = _;rw [hR];simp only [k9,reduceCtorEq,Int.reduceEq,if_true,if_false];clear key hR;revert p1 p2 p3 p4 p5 p6 p7 p8 p9 p10 p11 p12 p13 p14 p15 p16;intros;simp only [nu,nx,ny,nz,nB,nD,pz,decide_true,decide_false,reduceCtorEq,Int.reduceEq,Bool.true_and,Bool.false_and,Bool.not_true,Bool.not_false,Bool.or_false,Bool.false_or,Bool.not_and,Bool.not_or,Bool.not_not];ac_rfl⟩) rfl
  omega
 case key =>
 rintro T ⟨hTl,hT⟩
 as_aux_lemma =>
 obtain ⟨q,hq0⟩ : ∃ q,q = gM T:=⟨_,rfl⟩
 rw [← hq0] at hT
 have hfs:=hq0
 obtain ⟨fn,fe,ff,fv,fl,fc,fa,fb,fx,fk⟩:=q
 simp only at hT
 have hq:=hT
 clear hT hR hq0
 simp only [gM,Prod.mk.injEq] at hfs
 obtain ⟨j1,j2,j3,j4,j5,j6,j7,j8,j9,j10⟩:=hfs
 repeat' (first|(with_reducible refine hY _ ?_;clear hY Y)|((with_reducible first|refine ar rfl (ay fun K' hK'=>aa ?_)|refine hK' _ (ab fun Y hY=>aa ?_)|refine ae tk0 al (ab fun Y hY=>aa ?_));(try clear hK' K');(try dsimp only [aop]);try simp only [go_sem,seval,al,Tryz.results125])|(with_reducible first|refine ag ?_|refine aj ?_|refine am ?_|refine aF fun K hK=>?_|refine ap ?_|refine bW ?_)|(with_reducible refine hK _ ?_;clear hK K))
 refine b9 (α:=Nat) (fun j=>[(1,.rf SC 0),(4,bs T),(5,.c (.bool ((T.take j).any (· == 110)))),(6,.c (.bool ((T.take j).any (· == 101)))),(7,.c (.bool ((T.take j).any (· == 102)))),(8,.c (.bool ((T.take j).any (· == 118)))),(9,.c (.bool ((T.take j).any (· == 108)))),(10,.c (.bool ((T.take j).any (· == 99)))),(11,.c (.bool ((T.take j).any (· == 97)))),(12,.c (.bool ((T.take j).any (· == 98)))),(13,.c (.bool ((T.take j).any (· == 120)))),(14,.c (.bool ((T.take j).any (· == 107)))),(15,inA (j : Int))])
  (fun j=>j≤T.length) (fun j=>T.length - j) 0 [1,4,5,6,7,8,9,10,11,12,13,14,15] ?_ (Nat.zero_le _) ?_
 ·simp only [go_sem,seval,List.take_zero,List.any_nil] <;> rfl
 intro j hj ih
 by_cases hjl : j < T.length
 ·have hjl' : ((j : Int) < (T.length : Int)) = True:=eq_true (by omega)
  have hjw:=eB (n:=j) (by omega)
  have ihj:=ih (j + 1) (by omega) (by omega)
  simp only [xI _ hjl] at ihj
  clear ih j1 j2 j3 j4 j5 j6 j7 j8 j9 j10 hq
  generalize (T.take j).any (· == 110) = r1 at *
  generalize (T.take j).any (· == 101) = r2 at *
  generalize (T.take j).any (· == 102) = r3 at *
  generalize (T.take j).any (· == 118) = r4 at *
  generalize (T.take j).any (· == 108) = r5 at *
  generalize (T.take j).any (· == 99) = r6 at *
  generalize (T.take j).any (· == 97) = r7 at *
  generalize (T.take j).any (· == 98) = r8 at *
  generalize (T.take j).any (· == 120) = r9 at *
  generalize (T.take j).any (· == 107) = r10 at *
  have hTj : T.getD j 0 = T[j]:=by rw [List.getD_eq_getElem?_getD,List.getElem?_eq_getElem hjl];rfl
  generalize T[j] = ch at *
  by_cases h0 : ch = 110
  ·subst h0
   have m0 : ((((110 : UInt8).toNat : Nat)) : Int) = 110:=rfl
   skip
   repeat' (first|(with_reducible refine hY _ ?_;clear hY Y)|((with_reducible first|refine ar rfl (ay fun K' hK'=>aa ?_)|refine hK' _ (ab fun Y hY=>aa ?_)|refine ab fun Y hY=>aa ?_|refine ae tk0 al (ab fun Y hY=>aa ?_));(try clear hK' K');(try dsimp only [aop]);try simp only [go_sem,seval,al,Tryz.results125,hjl',hjw,hTj,m0])|(with_reducible first|refine ag ?_|refine aj ?_|refine am ?_|refine aF fun K hK=>?_|refine ax ?_|refine aR ?_|refine ap ?_|refine aD ?_)|(with_reducible refine hK _ ?_;clear hK K)|((with_reducible refine ai ?_ ?_);(· decide))|(with_reducible refine br ?_ ?_;(· (try and_intros) <;> first|omega|assumption|(simp only [List.length_append,List.length_map,List.length_cons,List.length_nil] <;> omega))))
   refine bi [1,4,5,6,7,8,9,10,11,12,13,14,15] (by simp only [go_sem,seval];exact rfl) ?_
   exact dd ihj (by clear ihj;simp)
  by_cases h1 : ch = 101
  ·subst h1
   have m0 : ((((101 : UInt8).toNat : Nat)) : Int) = 101:=rfl
   clear h0
   repeat' (first|(with_reducible refine hY _ ?_;clear hY Y)|((with_reducible first|refine ar rfl (ay fun K' hK'=>aa ?_)|refine hK' _ (ab fun Y hY=>aa ?_)|refine ab fun Y hY=>aa ?_|refine ae tk0 al (ab fun Y hY=>aa ?_));(try clear hK' K');(try dsimp only [aop]);try simp only [go_sem,seval,al,Tryz.results125,hjl',hjw,hTj,m0])|(with_reducible first|refine ag ?_|refine aj ?_|refine am ?_|refine aF fun K hK=>?_|refine ax ?_|refine av ?_|refine aR ?_|refine ap ?_|refine aD ?_)|(with_reducible refine hK _ ?_;clear hK K)|((with_reducible refine ai ?_ ?_);(· decide))|(with_reducible refine br ?_ ?_;(· (try and_intros) <;> first|omega|assumption|(simp only [List.length_append,List.length_map,List.length_cons,List.length_nil] <;> omega))))
   refine bi [1,4,5,6,7,8,9,10,11,12,13,14,15] (by simp only [go_sem,seval];exact rfl) ?_
   exact dd ihj (by clear ihj;simp)
  by_cases h2 : ch = 102
  ·subst h2
   have m0 : ((((102 : UInt8).toNat : Nat)) : Int) = 102:=rfl
   clear h0 h1
   repeat' (first|(with_reducible refine hY _ ?_;clear hY Y)|((with_reducible first|refine ar rfl (ay fun K' hK'=>aa ?_)|refine hK' _ (ab fun Y hY=>aa ?_)|refine ab fun Y hY=>aa ?_|refine ae tk0 al (ab fun Y hY=>aa ?_));(try clear hK' K');(try dsimp only [aop]);try simp only [go_sem,seval,al,Tryz.results125,hjl',hjw,hTj,m0])|(with_reducible first|refine ag ?_|refine aj ?_|refine am ?_|refine aF fun K hK=>?_|refine ax ?_|refine av ?_|refine aR ?_|refine ap ?_|refine aD ?_)|(with_reducible refine hK _ ?_;clear hK K)|((with_reducible refine ai ?_ ?_);(· decide))|(with_reducible refine br ?_ ?_;(· (try and_intros) <;> first|omega|assumption|(simp only [List.length_append,List.length_map,List.length_cons,List.length_nil] <;> omega))))
   refine bi [1,4,5,6,7,8,9,10,11,12,13,14,15] (by simp only [go_sem,seval];exact rfl) ?_
   exact dd ihj (by clear ihj;simp)
  by_cases h3 : ch = 118
  ·subst h3
   have m0 : ((((118 : UInt8).toNat : Nat)) : Int) = 118:=rfl
   clear h0 h1 h2
   repeat' (first|(with_reducible refine hY _ ?_;clear hY Y)|((with_reducible first|refine ar rfl (ay fun K' hK'=>aa ?_)|refine hK' _ (ab fun Y hY=>aa ?_)|refine ab fun Y hY=>aa ?_|refine ae tk0 al (ab fun Y hY=>aa ?_));(try clear hK' K');(try dsimp only [aop]);try simp only [go_sem,seval,al,Tryz.results125,hjl',hjw,hTj,m0])|(with_reducible first|refine ag ?_|refine aj ?_|refine am ?_|refine aF fun K hK=>?_|refine ax ?_|refine av ?_|refine aR ?_|refine ap ?_|refine aD ?_)|(with_reducible refine hK _ ?_;clear hK K)|((with_reducible refine ai ?_ ?_);(· decide))|(with_reducible refine br ?_ ?_;(· (try and_intros) <;> first|omega|assumption|(simp only [List.length_append,List.length_map,List.length_cons,List.length_nil] <;> omega))))
   refine bi [1,4,5,6,7,8,9,10,11,12,13,14,15] (by simp only [go_sem,seval];exact rfl) ?_
   exact dd ihj (by clear ihj;simp)
  by_cases h4 : ch = 108
  ·subst h4
   have m0 : ((((108 : UInt8).toNat : Nat)) : Int) = 108:=rfl
   clear h0 h1 h2 h3
   repeat' (first|(with_reducible refine hY _ ?_;clear hY Y)|((with_reducible first|refine ar rfl (ay fun K' hK'=>aa ?_)|refine hK' _ (ab fun Y hY=>aa ?_)|refine ab fun Y hY=>aa ?_|refine ae tk0 al (ab fun Y hY=>aa ?_));(try clear hK' K');(try dsimp only [aop]);try simp only [go_sem,seval,al,Tryz.results125,hjl',hjw,hTj,m0])|(with_reducible first|refine ag ?_|refine aj ?_|refine am ?_|refine aF fun K hK=>?_|refine ax ?_|refine av ?_|refine aR ?_|refine ap ?_|refine aD ?_)|(with_reducible refine hK _ ?_;clear hK K)|((with_reducible refine ai ?_ ?_);(· decide))|(with_reducible refine br ?_ ?_;(· (try and_intros) <;> first|omega|assumption|(simp only [List.length_append,List.length_map,List.length_cons,List.length_nil] <;> omega))))
   refine bi [1,4,5,6,7,8,9,10,11,12,13,14,15] (by simp only [go_sem,seval];exact rfl) ?_
   exact dd ihj (by clear ihj;simp)
  by_cases h5 : ch = 99
  ·subst h5
   have m0 : ((((99 : UInt8).toNat : Nat)) : Int) = 99:=rfl
   clear h0 h1 h2 h3 h4
   repeat' (first|(with_reducible refine hY _ ?_;clear hY Y)|((with_reducible first|refine ar rfl (ay fun K' hK'=>aa ?_)|refine hK' _ (ab fun Y hY=>aa ?_)|refine ab fun Y hY=>aa ?_|refine ae tk0 al (ab fun Y hY=>aa ?_));(try clear hK' K');(try dsimp only [aop]);try simp only [go_sem,seval,al,Tryz.results125,hjl',hjw,hTj,m0])|(with_reducible first|refine ag ?_|refine aj ?_|refine am ?_|refine aF fun K hK=>?_|refine ax ?_|refine av ?_|refine aR ?_|refine ap ?_|refine aD ?_)|(with_reducible refine hK _ ?_;clear hK K)|((with_reducible refine ai ?_ ?_);(· decide))|(with_reducible refine br ?_ ?_;(· (try and_intros) <;> first|omega|assumption|(simp only [List.length_append,List.length_map,List.length_cons,List.length_nil] <;> omega))))
   refine bi [1,4,5,6,7,8,9,10,11,12,13,14,15] (by simp only [go_sem,seval];exact rfl) ?_
   exact dd ihj (by clear ihj;simp)
  by_cases h6 : ch = 97
  ·subst h6
   have m0 : ((((97 : UInt8).toNat : Nat)) : Int) = 97:=rfl
   clear h0 h1 h2 h3 h4 h5
   repeat' (first|(with_reducible refine hY _ ?_;clear hY Y)|((with_reducible first|refine ar rfl (ay fun K' hK'=>aa ?_)|refine hK' _ (ab fun Y hY=>aa ?_)|refine ab fun Y hY=>aa ?_|refine ae tk0 al (ab fun Y hY=>aa ?_));(try clear hK' K');(try dsimp only [aop]);try simp only [go_sem,seval,al,Tryz.results125,hjl',hjw,hTj,m0])|(with_reducible first|refine ag ?_|refine aj ?_|refine am ?_|refine aF fun K hK=>?_|refine ax ?_|refine av ?_|refine aR ?_|refine ap ?_|refine aD ?_)|(with_reducible refine hK _ ?_;clear hK K)|((with_reducible refine ai ?_ ?_);(· decide))|(with_reducible refine br ?_ ?_;(· (try and_intros) <;> first|omega|assumption|(simp only [List.length_append,List.length_map,List.length_cons,List.length_nil] <;> omega))))
   refine bi [1,4,5,6,7,8,9,10,11,12,13,14,15] (by simp only [go_sem,seval];exact rfl) ?_
   exact dd ihj (by clear ihj;simp)
  by_cases h7 : ch = 98
  ·subst h7
   have m0 : ((((98 : UInt8).toNat : Nat)) : Int) = 98:=rfl
   clear h0 h1 h2 h3 h4 h5 h6
   repeat' (first|(with_reducible refine hY _ ?_;clear hY Y)|((with_reducible first|refine ar rfl (ay fun K' hK'=>aa ?_)|refine hK' _ (ab fun Y hY=>aa ?_)|refine ab fun Y hY=>aa ?_|refine ae tk0 al (ab fun Y hY=>aa ?_));(try clear hK' K');(try dsimp only [aop]);try simp only [go_sem,seval,al,Tryz.results125,hjl',hjw,hTj,m0])|(with_reducible first|refine ag ?_|refine aj ?_|refine am ?_|refine aF fun K hK=>?_|refine ax ?_|refine av ?_|refine aR ?_|refine ap ?_|refine aD ?_)|(with_reducible refine hK _ ?_;clear hK K)|((with_reducible refine ai ?_ ?_);(· decide))|(with_reducible refine br ?_ ?_;(· (try and_intros) <;> first|omega|assumption|(simp only [List.length_append,List.length_map,List.length_cons,List.length_nil] <;> omega))))
   refine bi [1,4,5,6,7,8,9,10,11,12,13,14,15] (by simp only [go_sem,seval];exact rfl) ?_
   exact dd ihj (by clear ihj;simp)
  by_cases h8 : ch = 120
  ·subst h8
   have m0 : ((((120 : UInt8).toNat : Nat)) : Int) = 120:=rfl
   clear h0 h1 h2 h3 h4 h5 h6 h7
   repeat' (first|(with_reducible refine hY _ ?_;clear hY Y)|((with_reducible first|refine ar rfl (ay fun K' hK'=>aa ?_)|refine hK' _ (ab fun Y hY=>aa ?_)|refine ab fun Y hY=>aa ?_|refine ae tk0 al (ab fun Y hY=>aa ?_));(try clear hK' K');(try dsimp only [aop]);try simp only [go_sem,seval,al,Tryz.results125,hjl',hjw,hTj,m0])|(with_reducible first|refine ag ?_|refine aj ?_|refine am ?_|refine aF fun K hK=>?_|refine ax ?_|refine av ?_|refine aR ?_|refine ap ?_|refine aD ?_)|(with_reducible refine hK _ ?_;clear hK K)|((with_reducible refine ai ?_ ?_);(· decide))|(with_reducible refine br ?_ ?_;(· (try and_intros) <;> first|omega|assumption|(simp only [List.length_append,List.length_map,List.length_cons,List.length_nil] <;> omega))))
   refine bi [1,4,5,6,7,8,9,10,11,12,13,14,15] (by simp only [go_sem,seval];exact rfl) ?_
   exact dd ihj (by clear ihj;simp)
  by_cases h9 : ch = 107
  ·subst h9
   have m0 : ((((107 : UInt8).toNat : Nat)) : Int) = 107:=rfl
   clear h0 h1 h2 h3 h4 h5 h6 h7 h8
   repeat' (first|(with_reducible refine hY _ ?_;clear hY Y)|((with_reducible first|refine ar rfl (ay fun K' hK'=>aa ?_)|refine hK' _ (ab fun Y hY=>aa ?_)|refine ab fun Y hY=>aa ?_|refine ae tk0 al (ab fun Y hY=>aa ?_));(try clear hK' K');(try dsimp only [aop]);try simp only [go_sem,seval,al,Tryz.results125,hjl',hjw,hTj,m0])|(with_reducible first|refine ag ?_|refine aj ?_|refine am ?_|refine aF fun K hK=>?_|refine ax ?_|refine av ?_|refine aR ?_|refine ap ?_|refine aD ?_)|(with_reducible refine hK _ ?_;clear hK K)|((with_reducible refine ai ?_ ?_);(· decide))|(with_reducible refine br ?_ ?_;(· (try and_intros) <;> first|omega|assumption|(simp only [List.length_append,List.length_map,List.length_cons,List.length_nil] <;> omega))))
   refine bi [1,4,5,6,7,8,9,10,11,12,13,14,15] (by simp only [go_sem,seval];exact rfl) ?_
   exact dd ihj (by clear ihj;simp)
  have m0 : ((ch.toNat : Int) = 110) = False:=eq_false fun h=>h0 (UInt8.toNat_inj.1 (by have : (110 : UInt8).toNat = 110:=rfl;omega))
  have m1 : ((ch.toNat : Int) = 101) = False:=eq_false fun h=>h1 (UInt8.toNat_inj.1 (by have : (101 : UInt8).toNat = 101:=rfl;omega))
  have m2 : ((ch.toNat : Int) = 102) = False:=eq_false fun h=>h2 (UInt8.toNat_inj.1 (by have : (102 : UInt8).toNat = 102:=rfl;omega))
  have m3 : ((ch.toNat : Int) = 118) = False:=eq_false fun h=>h3 (UInt8.toNat_inj.1 (by have : (118 : UInt8).toNat = 118:=rfl;omega))
  have m4 : ((ch.toNat : Int) = 108) = False:=eq_false fun h=>h4 (UInt8.toNat_inj.1 (by have : (108 : UInt8).toNat = 108:=rfl;omega))
  have m5 : ((ch.toNat : Int) = 99) = False:=eq_false fun h=>h5 (UInt8.toNat_inj.1 (by have : (99 : UInt8).toNat = 99:=rfl;omega))
  have m6 : ((ch.toNat : Int) = 97) = False:=eq_false fun h=>h6 (UInt8.toNat_inj.1 (by have : (97 : UInt8).toNat = 97:=rfl;omega))
  have m7 : ((ch.toNat : Int) = 98) = False:=eq_false fun h=>h7 (UInt8.toNat_inj.1 (by have : (98 : UInt8).toNat = 98:=rfl;omega))
  have m8 : ((ch.toNat : Int) = 120) = False:=eq_false fun h=>h8 (UInt8.toNat_inj.1 (by have : (120 : UInt8).toNat = 120:=rfl;omega))
  have m9 : ((ch.toNat : Int) = 107) = False:=eq_false fun h=>h9 (UInt8.toNat_inj.1 (by have : (107 : UInt8).toNat = 107:=rfl;omega))
  repeat' (first|(with_reducible refine hY _ ?_;clear hY Y)|((with_reducible first|refine ar rfl (ay fun K' hK'=>aa ?_)|refine hK' _ (ab fun Y hY=>aa ?_)|refine ab fun Y hY=>aa ?_|refine ae tk0 al (ab fun Y hY=>aa ?_));(try clear hK' K');(try dsimp only [aop]);try simp only [go_sem,seval,al,Tryz.results125,hjl',hjw,hTj,m0,m1,m2,m3,m4,m5,m6,m7,m8,m9])|(with_reducible first|refine ag ?_|refine aj ?_|refine am ?_|refine aF fun K hK=>?_|refine ax ?_|refine av ?_|refine aR ?_|refine ap ?_|refine aD ?_)|(with_reducible refine hK _ ?_;clear hK K)|((with_reducible refine ai ?_ ?_);(· decide))|(with_reducible refine br ?_ ?_;(· (try and_intros) <;> first|omega|assumption|(simp only [List.length_append,List.length_map,List.length_cons,List.length_nil] <;> omega))))
  refine bi [1,4,5,6,7,8,9,10,11,12,13,14,15] (by simp only [go_sem,seval];exact rfl) ?_
  exact dd ihj (by clear ihj;simp [h0,h1,h2,h3,h4,h5,h6,h7,h8,h9])
 have hjl' : ((j : Int) < (T.length : Int)) = False:=eq_false (by omega)
 rw [List.take_of_length_le (by omega),← j1,← j2,← j3,← j4,← j5,← j6,← j7,← j8,← j9,← j10]
 clear ih j1 j2 j3 j4 j5 j6 j7 j8 j9 j10 hj hjl
 repeat' (first|(with_reducible refine hY _ ?_;clear hY Y)|((with_reducible first|refine ar rfl (ay fun K' hK'=>aa ?_)|refine hK' _ (ab fun Y hY=>aa ?_)|refine ab fun Y hY=>aa ?_);(try clear hK' K');(try dsimp only [aop]);try simp only [go_sem,seval,al,Tryz.results125,hjl'])|(with_reducible first|refine ag ?_|refine aj ?_|refine aF fun K hK=>?_|refine av ?_|refine cf ?_|refine bI ?_|refine bH ?_)|((with_reducible refine cD 39 ?_ ?_);(· rfl))|((with_reducible refine bu 39 tk0 al ?_ (ab fun Y hY=>aa ?_));(· rfl);(try dsimp only [aop]);try simp only [go_sem,seval,al,Tryz.results125,hjl'])|(with_reducible refine hK _ ?_;clear hK K)|((with_reducible refine ai ?_ ?_);(· decide)))
 clear hjl' hTl
 obtain ⟨xe,hxe⟩ : ∃ xe,xe = x.isEmpty:=⟨_,rfl⟩
 obtain ⟨fe',hfe⟩ : ∃ z,z = f.isEmpty:=⟨_,rfl⟩
 obtain ⟨ye,hye⟩ : ∃ z,z = y.isEmpty:=⟨_,rfl⟩
 have e1 : (x == ([] : Wd)) = xe:=by rw [hxe];cases x <;> rfl
 have e2 : (f == ([] : Wd)) = fe':=by rw [hfe];cases f <;> rfl
 have e3 : (y == ([] : Wd)) = ye:=by rw [hye];cases y <;> rfl
 rw [← hxe,← hfe,← hye] at hq
 obtain ⟨rse,hrse⟩ : ∃ z,z = rs.isEmpty:=⟨_,rfl⟩
 obtain ⟨gse,hgse⟩ : ∃ z,z = gs.isEmpty:=⟨_,rfl⟩
 obtain ⟨fse,hfse⟩ : ∃ z,z = fs.isEmpty:=⟨_,rfl⟩
 obtain ⟨be,hbe⟩ : ∃ z,z = b.isEmpty:=⟨_,rfl⟩
 obtain ⟨le,hle⟩ : ∃ z,z = l.isEmpty:=⟨_,rfl⟩
 have e4 : decide ((rs.length : Int) = 0) = rse:=by rw [hrse];cases rs <;> simp <;> omega
 have e5 : decide ((gs.length : Int) = 0) = gse:=by rw [hgse];cases gs <;> simp <;> omega
 have e6 : decide ((fs.length : Int) = 0) = fse:=by rw [hfse];cases fs <;> simp <;> omega
 have e7 : decide ((b.length : Int) = 0) = be:=by rw [hbe];cases b <;> simp <;> omega
 have e8 : decide ((l.length : Int) = 0) = le:=by rw [hle];cases l <;> simp <;> omega
 rw [← hrse,← hgse,← hfse,← hbe,← hle] at hq
 clear hxe hfe hye hrse hgse hfse hbe hle
 obtain ⟨ms,hms⟩ : ∃ z,z = (decide (k = 9) && xe):=⟨_,rfl⟩
 rw [← hms] at hq
 generalize hg1 : nu fn ms p1 xe = zz1 at *
 apply jR (α:=Unit) (fun _=>[(1,.rf SC 0),(6,.c (.bool fe)),(7,.c (.bool ff)),(8,.c (.bool fv)),(9,.c (.bool fl)),(10,.c (.bool fc)),(11,.c (.bool fa)),(12,.c (.bool fb)),(13,.c (.bool fx)),(14,.c (.bool fk))]) (fun _=>zz1 = false)
 case use =>
  intro key
  repeat' (first|(with_reducible refine hY _ ?_;clear hY Y)|((with_reducible first|refine ar rfl (ay fun K' hK'=>aa ?_)|refine hK' _ (ab fun Y hY=>aa ?_)|refine ba rfl (ab fun Y hY=>aa ?_)|refine ab fun Y hY=>aa ?_|refine ay fun K' hK'=>aa ?_|refine aa ?_|refine aq ?_);(try clear hK' K');(try dsimp only [aop]);try simp only [go_sem,seval,al,Tryz.results125,len,g1,e1,g0])|(with_reducible first|refine ag ?_|refine aW rfl ?_|refine aK ?_|refine fU ?_|refine dc ?_ ?_|refine aj ?_|refine aF fun K hK=>?_|refine ax ?_|refine av ?_|refine aZ ?_|refine aD ?_|refine aA ?_)|((with_reducible refine cD 42 ?_ ?_);(· rfl))|((with_reducible refine bu 42 tk0 al ?_ (ab fun Y hY=>aa ?_));(· rfl);(try dsimp only [aop]);try simp only [go_sem,seval,al,Tryz.results125,len,g1,e1,g0])|(with_reducible refine hK _ ?_;clear hK K)|((with_reducible first|refine aI ?_ ?_|refine ai ?_ ?_);(· decide))|((with_reducible first|refine ci (fun hc=>?_) (fun hc=>?_)|refine fu (fun hc=>?_) (fun hc=>?_)) <;> (try simp only [decide_eq_true_eq,decide_eq_false_iff_not,Bool.not_true,Bool.not_false,Bool.not_eq_true',Bool.not_eq_false'] at hc) <;> (try (exfalso;omega)))|(with_reducible refine ac (c1) ?_)|(with_reducible refine bg (bN _) ?_))
  all_goals first|(refine dm (L:=[1,6,7,8,9,10,11,12,13,14]) (by simp only [go_sem,seval];exact rfl) ?_;exact key () (by clear key hq c1 c2 c3 c4 c5 c6 c7 c8 c9 c10 c11 c12 c13 c14 hbd hel e1 e2 e3 e4 e5 e6 e7 e8 one pu len g0 g1 g2 g3 s4 s8 s12 s15 g30 g31 g32 g33 g34 nE nV nC nA rE rV rC rA hrs hgs hbl hll hfl;rw [← hg1];simp_all [nu]))|skip
  all_goals (clear key;rw [hq];clear hq c1 c2 c3 c4 c5 c6 c7 c8 c9 c10 c11 c12 c13 c14 hbd hel e1 e2 e3 e4 e5 e6 e7 e8 one pu len g0 g1 g2 g3 s4 s8 s12 s15 g30 g31 g32 g33 g34 nE nV nC nA rE rV rC rA hrs hgs hbl hll hfl;simp_all [nu])
 case key =>
 rintro _ hk1
 as_aux_lemma =>
 try simp only at hk1
 subst hk1
 clear c1
 generalize hg2 : nx fe p2 p3 fv p4 p5 = zz2 at *
 apply jR (α:=Unit) (fun _=>[(1,.rf SC 0),(7,.c (.bool ff)),(9,.c (.bool fl)),(10,.c (.bool fc)),(11,.c (.bool fa)),(12,.c (.bool fb)),(13,.c (.bool fx)),(14,.c (.bool fk))]) (fun _=>zz2 = false)
 case use =>
  intro key
  repeat' (first|(with_reducible refine hY _ ?_;clear hY Y)|((with_reducible first|refine ar rfl (ay fun K' hK'=>aa ?_)|refine hK' _ (ab fun Y hY=>aa ?_)|refine ba rfl (ab fun Y hY=>aa ?_)|refine ab fun Y hY=>aa ?_|refine ay fun K' hK'=>aa ?_|refine aa ?_|refine aq ?_);(try clear hK' K');(try dsimp only [aop]);try simp only [go_sem,seval,al,Tryz.results125,len,s4,s8,nE,nV,rE,rV])|(with_reducible first|refine ag ?_|refine aW rfl ?_|refine aK ?_|refine fU ?_|refine dc ?_ ?_|refine aj ?_|refine aF fun K hK=>?_|refine ax ?_|refine av ?_|refine aZ ?_|refine aD ?_|refine aA ?_)|((with_reducible refine cD 44 ?_ ?_);(· rfl))|((with_reducible refine bu 44 tk0 al ?_ (ab fun Y hY=>aa ?_));(· rfl);(try dsimp only [aop]);try simp only [go_sem,seval,al,Tryz.results125,len,s4,s8,nE,nV,rE,rV])|(with_reducible refine hK _ ?_;clear hK K)|((with_reducible first|refine aI ?_ ?_|refine ai ?_ ?_);(· decide))|((with_reducible first|refine ci (fun hc=>?_) (fun hc=>?_)|refine fu (fun hc=>?_) (fun hc=>?_)) <;> (try simp only [decide_eq_true_eq,decide_eq_false_iff_not,Bool.not_true,Bool.not_false,Bool.not_eq_true',Bool.not_eq_false'] at hc) <;> (try (exfalso;omega)))|(with_reducible refine ac (c2) ?_)|(with_reducible refine ac (c3) ?_)|(with_reducible refine ac (c4) ?_)|(with_reducible refine ac (c5) ?_))
  all_goals first|(refine dm (L:=[1,7,9,10,11,12,13,14]) (by simp only [go_sem,seval];exact rfl) ?_;exact key () (by clear key hq c2 c3 c4 c5 c6 c7 c8 c9 c10 c11 c12 c13 c14 hbd hel e1 e2 e3 e4 e5 e6 e7 e8 one pu len g0 g1 g2 g3 s4 s8 s12 s15 g30 g31 g32 g33 g34 nE nV nC nA rE rV rC rA hrs hgs hbl hll hfl;rw [← hg2];simp_all [nx]))|skip
  all_goals (clear key;rw [hq];clear hq c2 c3 c4 c5 c6 c7 c8 c9 c10 c11 c12 c13 c14 hbd hel e1 e2 e3 e4 e5 e6 e7 e8 one pu len g0 g1 g2 g3 s4 s8 s12 s15 g30 g31 g32 g33 g34 nE nV nC nA rE rV rC rA hrs hgs hbl hll hfl;simp_all [nx])
 case key =>
 rintro _ hk2
 as_aux_lemma =>
 try simp only at hk2
 subst hk2
 clear c2 c3 c4 c5
 generalize hg3 : ny ff p6 fe' = zz3 at *
 apply jR (α:=Unit) (fun _=>[(1,.rf SC 0),(9,.c (.bool fl)),(10,.c (.bool fc)),(11,.c (.bool fa)),(12,.c (.bool fb)),(13,.c (.bool fx)),(14,.c (.bool fk))]) (fun _=>zz3 = false)
 case use =>
  intro key
  repeat' (first|(with_reducible refine hY _ ?_;clear hY Y)|((with_reducible first|refine ar rfl (ay fun K' hK'=>aa ?_)|refine hK' _ (ab fun Y hY=>aa ?_)|refine ba rfl (ab fun Y hY=>aa ?_)|refine ab fun Y hY=>aa ?_|refine ay fun K' hK'=>aa ?_|refine aa ?_|refine aq ?_);(try clear hK' K');(try dsimp only [aop]);try simp only [go_sem,seval,al,Tryz.results125,len,g2,e2])|(with_reducible first|refine ag ?_|refine aW rfl ?_|refine aK ?_|refine fU ?_|refine dc ?_ ?_|refine aj ?_|refine aF fun K hK=>?_|refine ax ?_|refine av ?_|refine aZ ?_|refine aD ?_|refine aA ?_)|((with_reducible refine cD 46 ?_ ?_);(· rfl))|((with_reducible refine bu 46 tk0 al ?_ (ab fun Y hY=>aa ?_));(· rfl);(try dsimp only [aop]);try simp only [go_sem,seval,al,Tryz.results125,len,g2,e2])|(with_reducible refine hK _ ?_;clear hK K)|((with_reducible first|refine aI ?_ ?_|refine ai ?_ ?_);(· decide))|((with_reducible first|refine ci (fun hc=>?_) (fun hc=>?_)|refine fu (fun hc=>?_) (fun hc=>?_)) <;> (try simp only [decide_eq_true_eq,decide_eq_false_iff_not,Bool.not_true,Bool.not_false,Bool.not_eq_true',Bool.not_eq_false'] at hc) <;> (try (exfalso;omega)))|(with_reducible refine ac (c6) ?_)|(with_reducible refine bg (bN _) ?_))
  all_goals first|(refine dm (L:=[1,9,10,11,12,13,14]) (by simp only [go_sem,seval];exact rfl) ?_;exact key () (by clear key hq c6 c7 c8 c9 c10 c11 c12 c13 c14 hbd hel e1 e2 e3 e4 e5 e6 e7 e8 one pu len g0 g1 g2 g3 s4 s8 s12 s15 g30 g31 g32 g33 g34 nE nV nC nA rE rV rC rA hrs hgs hbl hll hfl;rw [← hg3];simp_all [ny]))|skip
  all_goals (clear key;rw [hq];clear hq c6 c7 c8 c9 c10 c11 c12 c13 c14 hbd hel e1 e2 e3 e4 e5 e6 e7 e8 one pu len g0 g1 g2 g3 s4 s8 s12 s15 g30 g31 g32 g33 g34 nE nV nC nA rE rV rC rA hrs hgs hbl hll hfl;simp_all [ny])
 case key =>
 rintro _ hk3
 as_aux_lemma =>
 try simp only at hk3
 subst hk3
 clear c6
 generalize hg4 : nz fl p7 fse = zz4 at *
 apply jR (α:=Unit) (fun _=>[(1,.rf SC 0),(10,.c (.bool fc)),(11,.c (.bool fa)),(12,.c (.bool fb)),(13,.c (.bool fx)),(14,.c (.bool fk))]) (fun _=>zz4 = false)
 case use =>
  intro key
  repeat' (first|(with_reducible refine hY _ ?_;clear hY Y)|((with_reducible first|refine ar rfl (ay fun K' hK'=>aa ?_)|refine hK' _ (ab fun Y hY=>aa ?_)|refine ba rfl (ab fun Y hY=>aa ?_)|refine ab fun Y hY=>aa ?_|refine ay fun K' hK'=>aa ?_|refine aa ?_|refine aq ?_);(try clear hK' K');(try dsimp only [aop]);try simp only [go_sem,seval,al,Tryz.results125,len,g32,e6])|(with_reducible first|refine ag ?_|refine aW rfl ?_|refine aK ?_|refine fU ?_|refine dc ?_ ?_|refine aj ?_|refine aF fun K hK=>?_|refine ax ?_|refine av ?_|refine aZ ?_|refine aD ?_|refine aA ?_)|((with_reducible refine cD 48 ?_ ?_);(· rfl))|((with_reducible refine bu 48 tk0 al ?_ (ab fun Y hY=>aa ?_));(· rfl);(try dsimp only [aop]);try simp only [go_sem,seval,al,Tryz.results125,len,g32,e6])|(with_reducible refine hK _ ?_;clear hK K)|((with_reducible first|refine aI ?_ ?_|refine ai ?_ ?_);(· decide))|((with_reducible first|refine ci (fun hc=>?_) (fun hc=>?_)|refine fu (fun hc=>?_) (fun hc=>?_)) <;> (try simp only [decide_eq_true_eq,decide_eq_false_iff_not,Bool.not_true,Bool.not_false,Bool.not_eq_true',Bool.not_eq_false'] at hc) <;> (try (exfalso;omega)))|(with_reducible refine ac (c7) ?_))
  all_goals first|(refine dm (L:=[1,10,11,12,13,14]) (by simp only [go_sem,seval];exact rfl) ?_;exact key () (by clear key hq c7 c8 c9 c10 c11 c12 c13 c14 hbd hel e1 e2 e3 e4 e5 e6 e7 e8 one pu len g0 g1 g2 g3 s4 s8 s12 s15 g30 g31 g32 g33 g34 nE nV nC nA rE rV rC rA hrs hgs hbl hll hfl;rw [← hg4];simp_all [nz]))|skip
  all_goals (clear key;rw [hq];clear hq c7 c8 c9 c10 c11 c12 c13 c14 hbd hel e1 e2 e3 e4 e5 e6 e7 e8 one pu len g0 g1 g2 g3 s4 s8 s12 s15 g30 g31 g32 g33 g34 nE nV nC nA rE rV rC rA hrs hgs hbl hll hfl;simp_all [nz])
 case key =>
 rintro _ hk4
 as_aux_lemma =>
 try simp only at hk4
 subst hk4
 clear c7
 generalize hg5 : nB fc p8 p9 fa p10 p11 = zz5 at *
 apply jR (α:=Unit) (fun _=>[(1,.rf SC 0),(12,.c (.bool fb)),(13,.c (.bool fx)),(14,.c (.bool fk))]) (fun _=>zz5 = false)
 case use =>
  intro key
  repeat' (first|(with_reducible refine hY _ ?_;clear hY Y)|((with_reducible first|refine ar rfl (ay fun K' hK'=>aa ?_)|refine hK' _ (ab fun Y hY=>aa ?_)|refine ba rfl (ab fun Y hY=>aa ?_)|refine ab fun Y hY=>aa ?_|refine ay fun K' hK'=>aa ?_|refine aa ?_|refine aq ?_);(try clear hK' K');(try dsimp only [aop]);try simp only [go_sem,seval,al,Tryz.results125,len,s12,s15,nC,nA,rC,rA])|(with_reducible first|refine ag ?_|refine aW rfl ?_|refine aK ?_|refine fU ?_|refine dc ?_ ?_|refine aj ?_|refine aF fun K hK=>?_|refine ax ?_|refine av ?_|refine aZ ?_|refine aD ?_|refine aA ?_)|((with_reducible refine cD 50 ?_ ?_);(· rfl))|((with_reducible refine bu 50 tk0 al ?_ (ab fun Y hY=>aa ?_));(· rfl);(try dsimp only [aop]);try simp only [go_sem,seval,al,Tryz.results125,len,s12,s15,nC,nA,rC,rA])|(with_reducible refine hK _ ?_;clear hK K)|((with_reducible first|refine aI ?_ ?_|refine ai ?_ ?_);(· decide))|((with_reducible first|refine ci (fun hc=>?_) (fun hc=>?_)|refine fu (fun hc=>?_) (fun hc=>?_)) <;> (try simp only [decide_eq_true_eq,decide_eq_false_iff_not,Bool.not_true,Bool.not_false,Bool.not_eq_true',Bool.not_eq_false'] at hc) <;> (try (exfalso;omega)))|(with_reducible refine ac (c8) ?_)|(with_reducible refine ac (c9) ?_)|(with_reducible refine ac (c10) ?_)|(with_reducible refine ac (c11) ?_))
  all_goals first|(refine dm (L:=[1,12,13,14]) (by simp only [go_sem,seval];exact rfl) ?_;exact key () (by clear key hq c8 c9 c10 c11 c12 c13 c14 hbd hel e1 e2 e3 e4 e5 e6 e7 e8 one pu len g0 g1 g2 g3 s4 s8 s12 s15 g30 g31 g32 g33 g34 nE nV nC nA rE rV rC rA hrs hgs hbl hll hfl;rw [← hg5];simp_all [nB]))|skip
  all_goals (clear key;rw [hq];clear hq c8 c9 c10 c11 c12 c13 c14 hbd hel e1 e2 e3 e4 e5 e6 e7 e8 one pu len g0 g1 g2 g3 s4 s8 s12 s15 g30 g31 g32 g33 g34 nE nV nC nA rE rV rC rA hrs hgs hbl hll hfl;simp_all [nB])
 case key =>
 rintro _ hk5
 as_aux_lemma =>
 try simp only at hk5
 subst hk5
 clear c8 c9 c10 c11
 generalize hg6 : nD fk p12 p13 p14 ye rse gse = zz6 at *
 apply jR (α:=Unit) (fun _=>[(1,.rf SC 0),(12,.c (.bool fb)),(13,.c (.bool fx))]) (fun _=>zz6 = false)
 case use =>
  intro key
  repeat' (first|(with_reducible refine hY _ ?_;clear hY Y)|((with_reducible first|refine ar rfl (ay fun K' hK'=>aa ?_)|refine hK' _ (ab fun Y hY=>aa ?_)|refine ba rfl (ab fun Y hY=>aa ?_)|refine ab fun Y hY=>aa ?_|refine ay fun K' hK'=>aa ?_|refine aa ?_|refine aq ?_);(try clear hK' K');(try dsimp only [aop]);try simp only [go_sem,seval,al,Tryz.results125,len,g3,g30,g31,e3,e4,e5])|(with_reducible first|refine ag ?_|refine aW rfl ?_|refine aK ?_|refine fU ?_|refine dc ?_ ?_|refine aj ?_|refine aF fun K hK=>?_|refine ax ?_|refine av ?_|refine aZ ?_|refine aD ?_|refine aA ?_)|((with_reducible refine cD 52 ?_ ?_);(· rfl))|((with_reducible refine bu 52 tk0 al ?_ (ab fun Y hY=>aa ?_));(· rfl);(try dsimp only [aop]);try simp only [go_sem,seval,al,Tryz.results125,len,g3,g30,g31,e3,e4,e5])|(with_reducible refine hK _ ?_;clear hK K)|((with_reducible first|refine aI ?_ ?_|refine ai ?_ ?_);(· decide))|((with_reducible first|refine ci (fun hc=>?_) (fun hc=>?_)|refine fu (fun hc=>?_) (fun hc=>?_)) <;> (try simp only [decide_eq_true_eq,decide_eq_false_iff_not,Bool.not_true,Bool.not_false,Bool.not_eq_true',Bool.not_eq_false'] at hc) <;> (try (exfalso;omega)))|(with_reducible refine ac (c12) ?_)|(with_reducible refine ac (c13) ?_)|(with_reducible refine ac (c14) ?_)|(with_reducible refine bg (bN _) ?_))
  all_goals first|(refine dm (L:=[1,12,13]) (by simp only [go_sem,seval];exact rfl) ?_;exact key () (by clear key hq c12 c13 c14 hbd hel e1 e2 e3 e4 e5 e6 e7 e8 one pu len g0 g1 g2 g3 s4 s8 s12 s15 g30 g31 g32 g33 g34 nE nV nC nA rE rV rC rA hrs hgs hbl hll hfl;rw [← hg6];simp_all [nD]))|skip
  all_goals (clear key;rw [hq];clear hq c12 c13 c14 hbd hel e1 e2 e3 e4 e5 e6 e7 e8 one pu len g0 g1 g2 g3 s4 s8 s12 s15 g30 g31 g32 g33 g34 nE nV nC nA rE rV rC rA hrs hgs hbl hll hfl;simp_all [nD])
 case key =>
 rintro _ hk6
 as_aux_lemma =>
 try simp only at hk6
 subst hk6
 clear c12 c13 c14
 simp only [Bool.not_false,Bool.true_and] at hq
 repeat' (first|(with_reducible refine hY _ ?_;clear hY Y)|((with_reducible first|refine ar rfl (ay fun K' hK'=>aa ?_)|refine hK' _ (ab fun Y hY=>aa ?_)|refine ba rfl (ab fun Y hY=>aa ?_)|refine ab fun Y hY=>aa ?_|refine ay fun K' hK'=>aa ?_|refine ae tk0 al (ab fun Y hY=>aa ?_)|refine aa ?_|refine aq ?_);(try clear hK' K');(try dsimp only [aop]);try simp only [go_sem,seval,al,Tryz.results125,len,g33,g34,e7,e8])|(with_reducible first|refine ag ?_|refine aW rfl ?_|refine aK ?_|refine fU ?_|refine dc ?_ ?_|refine aj ?_|refine am ?_|refine aF fun K hK=>?_|refine aA ?_)|(with_reducible refine hK _ ?_;clear hK K)|((with_reducible refine aI ?_ ?_);(· decide))|((with_reducible refine ci (fun hc=>?_) (fun hc=>?_)) <;> (try simp only [decide_eq_true_eq,decide_eq_false_iff_not,Bool.not_true,Bool.not_false,Bool.not_eq_true',Bool.not_eq_false'] at hc) <;> (try (exfalso;omega)))|(with_reducible refine ac (hbd) ?_)|(with_reducible refine ac (hel) ?_))
 all_goals (rw [hq];clear hq hbd hel;simp_all [pz])
mutual
theorem AE :∀ e,OkS e→lU e
|.mk k x f y e v c a rs gs fs b l,h=>AD k x f y e v c a rs gs fs b l h (mW b h.2.2.2.2.2.2.2.2.2.2.2.1.1 (lh b h.2.2.2.2.2.2.2.2.2.2.2.1.2)) (mW l h.2.2.2.2.2.2.2.2.2.2.2.2.1 (lh l h.2.2.2.2.2.2.2.2.2.2.2.2.2))
theorem lh :∀ l,jB l→∀ e ∈ l,lU e
|[],_=>fun e he=>absurd he List.not_mem_nil
|a :: l,h=>gg (AE a h.1) (lh l h.2)
end
theorem yB (l : List PS') (hl : Lg l) (h : jB l) : jZ l:=mW l hl (lh l h)
end Go.Proofs.YtkjnkkmokojnpaaGreatDoor
