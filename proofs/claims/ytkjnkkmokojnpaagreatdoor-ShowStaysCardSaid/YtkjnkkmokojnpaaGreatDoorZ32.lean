/- Which assertions can be shown, in K: the document's. -/
import Derived.Test.YtkjnkkmokojnpaaGreatDoorZ28
namespace Go.Proofs.YtkjnkkmokojnpaaGreatDoor
set_option linter.unusedSimpArgs false
set_option linter.unusedVariables false
open Go.RowKit
abbrev jD (e : PA) : Prop:=AFn Tryz.prog 50 [.agg (paA e)] [] (.c (.bool (seA e))) []
def bA : Nat→List Nat
|0=>[0]
|1=>[1]
|2=>[1,3]
|3=>[1,3,4]
|4=>[1,3,4,5]
|5=>[1,3,4,5,6]
|6=>[1,3,4,5,6,7]
|7=>[1,3,4,5,6,7,8]
|8=>[1,3,4,5,6,7,8,54]
|9=>[1,3,4,5,7]
|10=>[1,3,4,5,6,7,8,54]
|11=>[1,4,5,7]
|12=>[1,3,4,5,6,7,8,54]
|13=>[1,3,5,6,7]
|14=>[1,3,4,5,6,7,8,54]
|15=>[1,3,6,7]
|16=>[1,3,4,5,7,8,54]
|17=>[1,3,4,5,7]
|18=>[1,4,5,7,8,54]
|19=>[1,4,5,7]
|20=>[1,7,8]
|21=>[1,7,8,9]
|22=>[1,7,8,9]
|23=>[1,7,9]
|24=>[8]
|_=>[]
set_option maxRecDepth 100000 in
set_option maxHeartbeats 16000000 in
theorem yM (k : Int) (c : PC) (e v : PE) (f : Wd) (n : Int) (ks : List PA) (hc : OkC c) (he : OkE e) (hv : OkE v) (hf : Lg f) (hks : Lg ks) (h :∀ e ∈ ks,jD e) : jD (.mk k c e v f n ks):=by
 unfold jD
 rw [seA]
 have h1:=qG c
 have h2:=kh e
 have h3:=kh v
 have h4:=qs c hc
 have h5:=lC e he
 have h6:=lC v hv
 have h7:=kU f (by unfold Lg at hf;omega)
 unfold jE at h4
 unfold jG at h5 h6
 unfold Lg at hks
 clear hc he hv hf
 obtain ⟨sh,hsh⟩ : ∃ sh,sh = vO k c e v f n ks.length:=⟨_,rfl⟩
 rw [← hsh]
 unfold vO mN x5 at hsh
 generalize fi c = p1 at *
 generalize dG e = p2 at *
 generalize dG v = p3 at *
 generalize seC c = p4 at *
 generalize seE e = p5 at *
 generalize seE v = p6 at *
 generalize dQ f = p7 at *
 obtain ⟨ck,ce,cks⟩:=c
 obtain ⟨ek,en,ex,eks⟩:=e
 obtain ⟨vk,vn,vx,vks⟩:=v
 simp only [paA,bR,peA,List.cons_append,List.nil_append] at h1 h2 h3 h4 h5 h6 ⊢
 refine aC [] Tryz.func50 rfl Tryz.ntmps50 (Nat.le_of_ble_eq_true rfl) (Nat.le_of_ble_eq_true rfl) fun w0 G0 B0 Pr hB0=>?_
 simp only [aJ,aB,List.cons_append,List.nil_append]
 apply jR (α:=Bool) (fun b=>[(1,.loc 10001 0),(3,.c (.bool (!p1))),(4,.c (.bool b)),(10001,.bc [inA k,inA ck,.sl (bY ce) ce.length .none,.sl (db cks) cks.length .none,inA ek,inA en,bs ex,.sl (bY eks) eks.length .none,inA vk,inA vn,bs vx,.sl (bY vks) vks.length .none,bs f,inA n,.sl (eT ks) ks.length .none] 54)])
  (fun b=>b = (!p2 && (f.isEmpty && decide (n = 0))))
 case use =>
  intro key
  repeat' (first|(with_reducible refine hY _ ?_;clear hY Y)|((with_reducible first|refine ar rfl (ay fun K' hK'=>aa ?_)|refine hK' _ (ab fun Y hY=>aa ?_)|refine ba rfl (ab fun Y hY=>aa ?_)|refine ab fun Y hY=>aa ?_|refine ay fun K' hK'=>aa ?_|refine aa ?_);(try clear hK' K');(try dsimp only [aop]);try simp only [go_sem,seval,bA,Tryz.results50])|(with_reducible first|refine ag ?_|refine aW rfl ?_|refine aK ?_|refine dc ?_ ?_|refine aj ?_|refine aF fun K hK=>?_)|((with_reducible refine cD 3 ?_ ?_);(· rfl))|((with_reducible refine bu 3 tk0 bA ?_ (ab fun Y hY=>aa ?_));(· rfl);(try dsimp only [aop]);try simp only [go_sem,seval,bA,Tryz.results50])|(with_reducible refine hK _ ?_;clear hK K)|((with_reducible refine aI ?_ ?_);(· decide))|((with_reducible refine ci (fun hc=>?_) (fun hc=>?_)) <;> (try simp only [decide_eq_true_eq,decide_eq_false_iff_not,Bool.not_true,Bool.not_false,Bool.not_eq_true',Bool.not_eq_false'] at hc) <;> (try (exfalso;omega)))|(with_reducible refine ac (h1) ?_)|(with_reducible refine ac (h2) ?_)|(with_reducible refine bg (bN _) ?_))
  all_goals refine dm (L:=[1,3,4]) (by simp only [go_sem,seval];exact rfl) ?_
  all_goals exact key _ (by clear key;cases f <;> simp_all)
 case key =>
 rintro b4 hb4
 apply jR (α:=Bool) (fun b=>[(1,.loc 10001 0),(3,.c (.bool (!p1))),(4,.c (.bool b4)),(5,.c (.bool (!p3))),(6,.c (.bool b)),(10001,.bc [inA k,inA ck,.sl (bY ce) ce.length .none,.sl (db cks) cks.length .none,inA ek,inA en,bs ex,.sl (bY eks) eks.length .none,inA vk,inA vn,bs vx,.sl (bY vks) vks.length .none,bs f,inA n,.sl (eT ks) ks.length .none] 54)])
  (fun b=>b = (p5 && (p7 && (decide (0≤n) && decide (n≤1073741824)))))
 case use =>
  intro key
  repeat' (first|(with_reducible refine hY _ ?_;clear hY Y)|((with_reducible first|refine ar rfl (ay fun K' hK'=>aa ?_)|refine hK' _ (ab fun Y hY=>aa ?_)|refine ba rfl (ab fun Y hY=>aa ?_)|refine ab fun Y hY=>aa ?_|refine ay fun K' hK'=>aa ?_|refine aa ?_);(try clear hK' K');(try dsimp only [aop]);try simp only [go_sem,seval,bA,Tryz.results50])|(with_reducible first|refine ag ?_|refine aW rfl ?_|refine aK ?_|refine dc ?_ ?_|refine aj ?_|refine aF fun K hK=>?_)|((with_reducible refine cD 5 ?_ ?_);(· rfl))|((with_reducible refine bu 5 tk0 bA ?_ (ab fun Y hY=>aa ?_));(· rfl);(try dsimp only [aop]);try simp only [go_sem,seval,bA,Tryz.results50])|(with_reducible refine hK _ ?_;clear hK K)|((with_reducible refine aI ?_ ?_);(· decide))|((with_reducible refine ci (fun hc=>?_) (fun hc=>?_)) <;> (try simp only [decide_eq_true_eq,decide_eq_false_iff_not,Bool.not_true,Bool.not_false,Bool.not_eq_true',Bool.not_eq_false'] at hc) <;> (try (exfalso;omega)))|(with_reducible refine ac (h3) ?_)|(with_reducible refine ac (h5) ?_)|(with_reducible refine ac (h7) ?_))
  all_goals refine dm (L:=[1,3,4,5,6]) (by simp only [go_sem,seval];exact rfl) ?_
  all_goals exact key _ (by clear key;simp_all <;> (intros;omega))
 case key =>
 rintro b6 hb6
 rw [← hb4,← hb6] at hsh
 clear hb4 hb6 h1 h2 h3 h5 h7
 obtain ⟨R,hR⟩ : ∃ R,R = (sh && lN ks):=⟨_,rfl⟩
 rw [← hR]
 apply wH (α:=Bool × Int) (fun b=>[(1,.loc 10001 0),(7,inA (ks.length : Int)),(8,.c (.bool b.1)),(9,inA 0),(10001,.bc [inA b.2,inA ck,.sl (bY ce) ce.length .none,.sl (db cks) cks.length .none,inA ek,inA en,bs ex,.sl (bY eks) eks.length .none,inA vk,inA vn,bs vx,.sl (bY vks) vks.length .none,bs f,inA n,.sl (eT ks) ks.length .none] 54)])
  (fun b=>b.2 = k∧b.1 = sh)
 case use =>
  intro key
  rcases (by omega : k = 0∨k = 1∨k = 2∨k = 3∨k = 4∨k = 5∨(¬ k = 0∧¬ k = 1∧¬ k = 2∧¬ k = 3∧¬ k = 4∧¬ k = 5)) with rfl|rfl|rfl|rfl|rfl|rfl|⟨g0,g1,g2,g3,g4,g5⟩
  case inr.inr.inr.inr.inr.inr =>
   simp only [g0,g1,g2,g3,g4,g5,if_false] at hsh
   repeat' (first|(with_reducible refine hY _ ?_;clear hY Y)|((with_reducible first|refine ar rfl (ay fun K' hK'=>aa ?_)|refine hK' _ (ab fun Y hY=>aa ?_)|refine ab fun Y hY=>aa ?_|refine ae tk0 bA (ab fun Y hY=>aa ?_));(try clear hK' K');(try dsimp only [aop]);try simp only [go_sem,seval,bA,Tryz.results50,g0,g1,g2,g3,g4,g5])|(with_reducible first|refine ag ?_|refine aj ?_|refine am ?_|refine aF fun K hK=>?_|refine av ?_|refine aR ?_|refine ap ?_|refine aD ?_|refine bW ?_)|(with_reducible refine hK _ ?_;clear hK K)|((with_reducible refine ai ?_ ?_);(· decide)))
   refine bi [1,7,8,9] (by simp only [go_sem,seval];exact rfl) ?_
   refine dd (key (sh,k) ⟨rfl,rfl⟩) ?_
   rw [hsh]
  all_goals simp only [reduceCtorEq,Int.reduceEq,if_true,if_false] at hsh
  all_goals
   repeat' (first|(with_reducible refine hY _ ?_;clear hY Y)|((with_reducible first|refine ar rfl (ay fun K' hK'=>aa ?_)|refine hK' _ (ab fun Y hY=>aa ?_)|refine ba rfl (ab fun Y hY=>aa ?_)|refine ab fun Y hY=>aa ?_|refine ay fun K' hK'=>aa ?_|refine ae tk0 bA (ab fun Y hY=>aa ?_)|refine aa ?_);(try clear hK' K');(try dsimp only [aop]);try simp only [go_sem,seval,bA,Tryz.results50])|(with_reducible first|refine ag ?_|refine aW rfl ?_|refine aK ?_|refine dc ?_ ?_|refine aj ?_|refine am ?_|refine aF fun K hK=>?_|refine ax ?_|refine av ?_|refine aR ?_|refine ap ?_|refine bW ?_)|(with_reducible refine hK _ ?_;clear hK K)|((with_reducible first|refine aI ?_ ?_|refine ai ?_ ?_);(· decide))|((with_reducible refine ci (fun hc=>?_) (fun hc=>?_)) <;> (try simp only [decide_eq_true_eq,decide_eq_false_iff_not,Bool.not_true,Bool.not_false,Bool.not_eq_true',Bool.not_eq_false'] at hc) <;> (try (exfalso;omega)))|(with_reducible refine ac (h4) ?_)|(with_reducible refine ac (h6) ?_))
  all_goals refine bi [1,7,8,9] (by simp only [go_sem,seval];exact rfl) ?_
  all_goals first|refine dd (key (sh,0) ⟨rfl,rfl⟩) ?_|refine dd (key (sh,1) ⟨rfl,rfl⟩) ?_|refine dd (key (sh,2) ⟨rfl,rfl⟩) ?_|refine dd (key (sh,3) ⟨rfl,rfl⟩) ?_|refine dd (key (sh,4) ⟨rfl,rfl⟩) ?_|refine dd (key (sh,5) ⟨rfl,rfl⟩) ?_
  all_goals simp only [List.cons.injEq,Prod.mk.injEq,AV.c.injEq,Value.bool.injEq,true_and,and_true]
  all_goals (clear key;rw [hsh];simp_all <;> omega)
 case key =>
 rintro ⟨ok0,k'⟩ ⟨hk',hok0⟩
 simp only at hk' hok0 ⊢
 subst hk'
 subst hok0
 rw [hR]
 clear hR hsh h4 h6
 refine b9 (α:=Nat × Bool) (fun q=>[(1,.loc 10001 0),(7,inA (ks.length : Int)),(8,.c (.bool q.2)),(9,inA (q.1 : Int)),(10001,.bc [inA k',inA ck,.sl (bY ce) ce.length .none,.sl (db cks) cks.length .none,inA ek,inA en,bs ex,.sl (bY eks) eks.length .none,inA vk,inA vn,bs vx,.sl (bY vks) vks.length .none,bs f,inA n,.sl (eT ks) ks.length .none] 54)])
  (fun q=>q.1≤ks.length∧(q.2 = true→ok0 = true∧∀ j (hj : j < ks.length),j < q.1→seA ks[j] = true)∧(q.2 = false→(ok0 && lN ks) = false)) (fun q=>ks.length - q.1) (0,ok0) [1,7,8,9] ?_
  ⟨Nat.zero_le _,fun h=>⟨h,fun j _ hj=>absurd hj (Nat.not_lt_zero _)⟩,fun h=>by simp only at h;rw [h];rfl⟩ ?_
 ·simp only [go_sem,seval] <;> rfl
 rintro ⟨i,ok⟩ ⟨hi,ht,hf⟩ ih
 simp only at hi ht hf ih ⊢
 by_cases hlt : i < ks.length
 case neg =>
  have hlt' : ((i : Int) < (ks.length : Int)) = False:=eq_false (by omega)
  have hfin : (ok0 && lN ks) = ok:=by
   cases ok with
  |false=>exact hf rfl
  |true =>
    obtain ⟨a1,a2⟩:=ht rfl
    have : lN ks = true:=by
     rw [oc,List.all_eq_true]
     intro x hx
     obtain ⟨j,hj,rfl⟩:=List.getElem_of_mem hx
     exact a2 j hj (by omega)
    rw [a1,this];rfl
  rw [hfin]
  clear ih h ht hf hfin
  repeat' (first|(with_reducible refine hY _ ?_;clear hY Y)|((with_reducible first|refine ar rfl (ay fun K' hK'=>aa ?_)|refine hK' _ (ab fun Y hY=>aa ?_)|refine ba rfl (ab fun Y hY=>aa ?_)|refine ab fun Y hY=>aa ?_|refine ae tk0 bA (ab fun Y hY=>aa ?_)|refine aa ?_|refine aq ?_);(try clear hK' K');(try dsimp only [aop]);try simp only [go_sem,seval,bA,Tryz.results50,hlt'])|(with_reducible first|refine ag ?_|refine aW rfl ?_|refine dc ?_ ?_|refine aj ?_|refine am ?_|refine aF fun K hK=>?_|refine av ?_|refine cf ?_|refine bI ?_|refine aA ?_|refine bH ?_)|(with_reducible refine hK _ ?_;clear hK K)|((with_reducible first|refine aI ?_ ?_|refine ai ?_ ?_);(· decide)))
 have hlt' : ((i : Int) < (ks.length : Int)) = True:=eq_true (by omega)
 cases ok with
|false =>
  rw [hf rfl]
  clear ih h ht hf
  repeat' (first|(with_reducible refine hY _ ?_;clear hY Y)|((with_reducible first|refine ar rfl (ay fun K' hK'=>aa ?_)|refine hK' _ (ab fun Y hY=>aa ?_)|refine ba rfl (ab fun Y hY=>aa ?_)|refine ab fun Y hY=>aa ?_|refine ay fun K' hK'=>aa ?_|refine ae tk0 bA (ab fun Y hY=>aa ?_)|refine aa ?_|refine aq ?_);(try clear hK' K');(try dsimp only [aop]);try simp only [go_sem,seval,bA,Tryz.results50,hlt'])|(with_reducible first|refine ag ?_|refine aK ?_|refine aj ?_|refine am ?_|refine aF fun K hK=>?_|refine av ?_|refine cf ?_|refine bI ?_|refine aA ?_|refine bH ?_)|(with_reducible refine hK _ ?_;clear hK K)|((with_reducible first|refine aI ?_ ?_|refine ai ?_ ?_);(· decide)))
|true =>
  obtain ⟨a1,a2⟩:=ht rfl
  clear hf ht
  have hkw:=eB (n:=i) (by omega)
  have hg0:=tR hlt
  have hfl:=nT ks
  have h2:=h ks[i] (List.getElem_mem hlt)
  unfold jD at h2
  have hno : seA ks[i] = false→(ok0 && lN ks) = false:=fun e=>by
   have : lN ks = false:=by
    rw [oc,List.all_eq_false]
    exact ⟨ks[i],List.getElem_mem hlt,by rw [e];simp⟩
   rw [this];simp
  have hnx : seA ks[i] = true→∀ j (hj : j < ks.length),j < i + 1→seA ks[j] = true:=fun e j hj hjk=>by
   by_cases hj2 : j < i
   ·exact a2 j hj hj2
   ·have : j = i:=by omega
    subst this;exact e
  generalize hp : seA ks[i] = b at *
  generalize ks[i] = t at *
  obtain ⟨tk,⟨tck,tce,tcks⟩,⟨tek,ten,tex,teks⟩,⟨tvk,tvn,tvx,tvks⟩,tf,tn,tks⟩:=t
  simp only [paA,bR,peA,List.cons_append,List.nil_append] at hg0 h2
  clear h a2
  repeat' (first|(with_reducible refine hY _ ?_;clear hY Y)|((with_reducible first|refine ar rfl (ay fun K' hK'=>aa ?_)|refine hK' _ (ab fun Y hY=>aa ?_)|refine ba rfl (ab fun Y hY=>aa ?_)|refine ab fun Y hY=>aa ?_|refine ay fun K' hK'=>aa ?_|refine ae tk0 bA (ab fun Y hY=>aa ?_)|refine aa ?_);(try clear hK' K');(try dsimp only [aop]);try simp only [go_sem,seval,bA,Tryz.results50,hlt',hfl,hg0,hkw])|(with_reducible first|refine ag ?_|refine aK ?_|refine aj ?_|refine am ?_|refine aF fun K hK=>?_|refine ax ?_|refine aR ?_|refine ap ?_|refine aD ?_)|(with_reducible refine hK _ ?_;clear hK K)|((with_reducible first|refine aI ?_ ?_|refine ai ?_ ?_);(· decide))|(with_reducible refine br ?_ ?_;(· (try and_intros) <;> first|omega|assumption|(simp only [List.length_append,List.length_map,List.length_cons,List.length_nil] <;> omega)))|(with_reducible refine ac (h2) ?_))
  refine bi [1,7,8,9] (by simp only [go_sem,seval];exact rfl) ?_
  exact ih (i + 1,b) ⟨by omega,fun e=>⟨a1,hnx e⟩,fun e=>hno e⟩ (by show ks.length - (i + 1) < ks.length - i;omega)
mutual
theorem nj :∀ e,OkA e→jD e
|.mk k c e v f n ks,h=>yM k c e v f n ks h.2.1 h.2.2.1 h.2.2.2.1 h.2.2.2.2.1 h.2.2.2.2.2.2.1 (qi ks h.2.2.2.2.2.2.2)
theorem qi :∀ l,rN l→∀ e ∈ l,jD e
|[],_=>fun e he=>absurd he List.not_mem_nil
|a :: l,h=>gg (nj a h.1) (qi l h.2)
end
end Go.Proofs.YtkjnkkmokojnpaaGreatDoor
