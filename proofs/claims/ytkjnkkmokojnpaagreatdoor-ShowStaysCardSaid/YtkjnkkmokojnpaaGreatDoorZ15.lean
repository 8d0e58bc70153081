/- The document's texts in K: assertions. The document's texts in K: rows, statements, blocks. -/
import Derived.Test.YtkjnkkmokojnpaaGreatDoorZ14
namespace Go.Proofs.YtkjnkkmokojnpaaGreatDoor
set_option linter.unusedSimpArgs false
set_option linter.unusedVariables false
open Go.RowKit
structure TxA (a : PA) : Prop where
 len : (aX (tkA a)).length≤1000000000000
 tells : AFn Tryz.prog 32 [.agg (paA a)] [] (bs (aX (tkA a))) []
structure PaC (k : Int) (c : PC) (e v : PE) (f : Wd) (n : Int) (ks : List PA) (A : List AV) : Prop where
 one : eG A = true
 len : A.length = 15
 g0 : A.getD 0 .u = inA k
 s1 : (A.drop 1).take 3 = bR c
 s4 : (A.drop 4).take 4 = peA e
 s8 : (A.drop 8).take 4 = peA v
 g12 : A.getD 12 .u = bs f
 g13 : A.getD 13 .u = inA n
 g14 : A.getD 14 .u = .sl (eT ks) ks.length .none
theorem paC (k : Int) (c : PC) (e v : PE) (f : Wd) (n : Int) (ks : List PA) : PaC k c e v f n ks (paA (.mk k c e v f n ks)):=by
 obtain ⟨ck,ce,cks⟩:=c
 obtain ⟨ek,en,ex,eks⟩:=e
 obtain ⟨vk,vn,vx,vks⟩:=v
 constructor <;> simp [paA,bR,peA,eG,AV.one,Value.oneCell']
theorem Ek (a : PA) (r : List AV) : (paA a ++ r).getD 0 .u = inA a.kind:=by
 obtain ⟨k,c,e,v,f,n,ks⟩:=a
 simp [paA,PA.kind]
theorem Ag (a b : PA) : (paA a ++ paA b).getD 15 .u = inA b.kind:=by
 have h:=eY a
 rw [List.getD_eq_getElem?_getD,List.getElem?_append_right (by omega),h]
 have:=Ek b []
 rw [List.append_nil,List.getD_eq_getElem?_getD] at this
 exact this
def bq : Nat→List Nat
 | 0=>[0]
 | 1=>[1]
 | 2=>[1,5]
 | 3=>[]
 | 4=>[1,5]
 | 5=>[1]
 | 6=>[1,5]
 | 7=>[1]
 | 8=>[1,5]
 | 9=>[1]
 | 10=>[1,5]
 | 11=>[1]
 | 12=>[1,3]
 | 13=>[1,3]
 | 14=>[1,3]
 | 15=>[1]
 | _=>[]
set_option maxRecDepth 100000 in
set_option maxHeartbeats 8000000 in
theorem Cz (c : PC) (e v : PE) (f : Wd) (n : Int) (ks : List PA) : AFn Tryz.prog 32 [.agg (paA (.mk 0 c e v f n ks))] [] (bs (aX (tkA (.mk 0 c e v f n ks)))) []:=by
 have : aX (tkA (.mk 0 c e v f n ks)) = [101,109,112]:=by rw [tkA];rfl
 rw [this]
 obtain ⟨one,len,g0,s1,s4,s8,g12,g13,g14⟩:=paC 0 c e v f n ks
 generalize paA (.mk 0 c e v f n ks) = AC at *
 refine aC [] Tryz.func32 rfl Tryz.ntmps32 (Nat.le_of_ble_eq_true rfl) (Nat.le_of_ble_eq_true rfl) fun w0 G0 B0 Pr hB0=>?_
 simp only [aJ,aB,List.cons_append,List.nil_append]
 repeat' (first | (with_reducible refine hY _ ?_;clear hY Y) | ((with_reducible first | refine ar rfl (ay fun K' hK'=>aa ?_) | refine hK' _ (ab fun Y hY=>aa ?_) | refine ab fun Y hY=>aa ?_ | refine ae tk0 bq (ab fun Y hY=>aa ?_) | refine aa ?_ | refine aq ?_);(try clear hK' K');(try dsimp only [aop]);try simp only [go_sem,seval,bq,Tryz.results32,one,len,g0]) | (with_reducible first | refine ag ?_ | refine aj ?_ | refine am ?_ | refine aF fun K hK=>?_ | refine ax ?_ | refine aZ ?_ | refine bh ?_ | refine ap ?_ | refine aA ?_) | (with_reducible refine hK _ ?_;clear hK K) | ((with_reducible refine ai ?_ ?_);(· decide)))
set_option maxRecDepth 100000 in
set_option maxHeartbeats 8000000 in
theorem CB (c : PC) (e v : PE) (f : Wd) (n : Int) (ks : List PA) (hc : TxC c) : AFn Tryz.prog 32 [.agg (paA (.mk 1 c e v f n ks))] [] (bs (aX (tkA (.mk 1 c e v f n ks)))) []:=by
 rw [Fl]
 obtain ⟨one,len,g0,s1,s4,s8,g12,g13,g14⟩:=paC 1 c e v f n ks
 obtain ⟨lc,cc⟩:=hc
 have nc:=(dv c).nm3
 have rc:=(dv c).rn3
 generalize paA (.mk 1 c e v f n ks) = AC at *
 generalize bR c = CC at *
 generalize aX (tkC c) = TC at *
 refine aC [] Tryz.func32 rfl Tryz.ntmps32 (Nat.le_of_ble_eq_true rfl) (Nat.le_of_ble_eq_true rfl) fun w0 G0 B0 Pr hB0=>?_
 simp only [aJ,aB,List.cons_append,List.nil_append]
 repeat' (first | (with_reducible refine hY _ ?_;clear hY Y) | ((with_reducible first | refine ar rfl (ay fun K' hK'=>aa ?_) | refine hK' _ (ab fun Y hY=>aa ?_) | refine ab fun Y hY=>aa ?_ | refine ae tk0 bq (ab fun Y hY=>aa ?_) | refine aa ?_ | refine aq ?_);(try clear hK' K');(try dsimp only [aop]);try simp only [go_sem,seval,bq,Tryz.results32,one,len,g0,s1,nc,rc]) | (with_reducible first | refine ag ?_ | refine aj ?_ | refine am ?_ | refine aF fun K hK=>?_ | refine ax ?_ | refine av ?_ | refine aZ ?_ | refine bh ?_ | refine ap ?_ | refine aA ?_) | (with_reducible refine hK _ ?_;clear hK K) | ((with_reducible refine ai ?_ ?_);(· decide)) | (with_reducible refine ac (cc) ?_) | (with_reducible refine bg (cE _ _ ?_) ?_;(· (try simp only [List.length_append,List.length_cons,List.length_nil]);omega)))
set_option maxRecDepth 100000 in
set_option maxHeartbeats 8000000 in
theorem CD (c : PC) (e v : PE) (f : Wd) (n : Int) (ks : List PA) (he : TxE e) (hf : f.length≤1000000000000) (hn : gK n = true) : AFn Tryz.prog 32 [.agg (paA (.mk 2 c e v f n ks))] [] (bs (aX (tkA (.mk 2 c e v f n ks)))) []:=by
 rw [Fm]
 obtain ⟨one,len,g0,s1,s4,s8,g12,g13,g14⟩:=paC 2 c e v f n ks
 obtain ⟨lc,cc⟩:=he
 have nc:=(cQ e).nm3
 have rc:=(cQ e).rn3
 have ln:=vV hn
 have cn:=nn hn
 generalize paA (.mk 2 c e v f n ks) = AC at *
 generalize peA e = CC at *
 generalize aX (tkE e) = TC at *
 generalize dg n = D at *
 refine aC [] Tryz.func32 rfl Tryz.ntmps32 (Nat.le_of_ble_eq_true rfl) (Nat.le_of_ble_eq_true rfl) fun w0 G0 B0 Pr hB0=>?_
 simp only [aJ,aB,List.cons_append,List.nil_append]
 repeat' (first | (with_reducible refine hY _ ?_;clear hY Y) | ((with_reducible first | refine ar rfl (ay fun K' hK'=>aa ?_) | refine hK' _ (ab fun Y hY=>aa ?_) | refine ab fun Y hY=>aa ?_ | refine ae tk0 bq (ab fun Y hY=>aa ?_) | refine aa ?_ | refine aq ?_ | refine cX rfl (dx fun K' hK'=>aa ?_) | refine hK' _ _ (ab fun Y hY=>aa ?_));(try clear hK' K');(try dsimp only [aop]);try simp only [go_sem,seval,bq,Tryz.results32,one,len,g0,s4,g12,g13,nc,rc]) | (with_reducible first | refine ag ?_ | refine aj ?_ | refine am ?_ | refine aF fun K hK=>?_ | refine ax ?_ | refine av ?_ | refine aZ ?_ | refine bh ?_ | refine ap ?_ | refine aA ?_ | refine bV ?_ | refine eS fun K hK=>?_) | (with_reducible refine hK _ ?_;clear hK K) | (with_reducible refine hK _ _ ?_ ?_;(· kernel_rfl);clear hK K) | ((with_reducible refine ai ?_ ?_);(· decide)) | (with_reducible refine bU tk0 bq ?_ ?_;(· kernel_rfl)) | (with_reducible refine ac (cc) ?_) | (with_reducible refine ac (cn) ?_) | (with_reducible refine bg (cE _ _ ?_) ?_;(· (try simp only [List.length_append,List.length_cons,List.length_nil]);omega)))
set_option maxRecDepth 100000 in
set_option maxHeartbeats 8000000 in
theorem CG (c : PC) (e v : PE) (f : Wd) (n : Int) (ks : List PA) (he : TxE e) (hv : TxE v) (hf : f.length≤1000000000000) (hn : gK n = true) : AFn Tryz.prog 32 [.agg (paA (.mk 3 c e v f n ks))] [] (bs (aX (tkA (.mk 3 c e v f n ks)))) []:=by
 rw [Fo]
 obtain ⟨one,len,g0,s1,s4,s8,g12,g13,g14⟩:=paC 3 c e v f n ks
 obtain ⟨lc,cc⟩:=he
 have nc:=(cQ e).nm3
 have rc:=(cQ e).rn3
 obtain ⟨lv,cv⟩:=hv
 have nv:=(cQ v).nm3
 have rv:=(cQ v).rn3
 have ln:=vV hn
 have cn:=nn hn
 generalize paA (.mk 3 c e v f n ks) = AC at *
 generalize peA e = CC at *
 generalize aX (tkE e) = TC at *
 generalize peA v = CV at *
 generalize aX (tkE v) = TV at *
 generalize dg n = D at *
 refine aC [] Tryz.func32 rfl Tryz.ntmps32 (Nat.le_of_ble_eq_true rfl) (Nat.le_of_ble_eq_true rfl) fun w0 G0 B0 Pr hB0=>?_
 simp only [aJ,aB,List.cons_append,List.nil_append]
 repeat' (first | (with_reducible refine hY _ ?_;clear hY Y) | ((with_reducible first | refine ar rfl (ay fun K' hK'=>aa ?_) | refine hK' _ (ab fun Y hY=>aa ?_) | refine ab fun Y hY=>aa ?_ | refine ae tk0 bq (ab fun Y hY=>aa ?_) | refine aa ?_ | refine aq ?_ | refine cX rfl (dx fun K' hK'=>aa ?_) | refine hK' _ _ (ab fun Y hY=>aa ?_));(try clear hK' K');(try dsimp only [aop]);try simp only [go_sem,seval,bq,Tryz.results32,one,len,g0,s4,s8,g12,g13,nc,rc,nv,rv]) | (with_reducible first | refine ag ?_ | refine aj ?_ | refine am ?_ | refine aF fun K hK=>?_ | refine ax ?_ | refine av ?_ | refine aZ ?_ | refine bh ?_ | refine ap ?_ | refine aA ?_ | refine bV ?_ | refine eS fun K hK=>?_) | (with_reducible refine hK _ ?_;clear hK K) | (with_reducible refine hK _ _ ?_ ?_;(· kernel_rfl);clear hK K) | ((with_reducible refine ai ?_ ?_);(· decide)) | (with_reducible refine bU tk0 bq ?_ ?_;(· kernel_rfl)) | (with_reducible refine ac (cc) ?_) | (with_reducible refine ac (cv) ?_) | (with_reducible refine ac (cn) ?_) | (with_reducible refine bg (cE _ _ ?_) ?_;(· (try simp only [List.length_append,List.length_cons,List.length_nil]);omega)))
set_option maxRecDepth 100000 in
set_option maxHeartbeats 8000000 in
theorem CH (c : PC) (e v : PE) (f : Wd) (n : Int) (a b : PA) (ha : TxA a) (hb : TxA b) : AFn Tryz.prog 32 [.agg (paA (.mk 4 c e v f n [a,b]))] [] (bs (aX (tkA (.mk 4 c e v f n [a,b])))) []:=by
 rw [Fp]
 obtain ⟨one,len,g0,s1,s4,s8,g12,g13,g14⟩:=paC 4 c e v f n [a,b]
 have e2 : eT [a,b] = paA a ++ paA b:=by simp [eT]
 rw [e2] at g14
 obtain ⟨q1,q2,q3⟩:=sS (eY a) (eY b)
 have na:=(dV a).nm3
 have ra:=(dV a).rn3
 have nb:=(dV b).nm3
 have rb:=(dV b).rn3
 have q4:=Ag a b
 obtain ⟨la,ca⟩:=ha
 obtain ⟨lb,cb⟩:=hb
 have g14' : (paA (.mk 4 c e v f n [a,b])).getD 14 .u = .sl (paA a ++ paA b) 2 .none:=g14
 clear g14 e2
 generalize paA (.mk 4 c e v f n [a,b]) = AC at *
 generalize paA a ++ paA b = KS at *
 generalize paA a = A at *
 generalize paA b = B at *
 generalize aX (tkA a) = TA at *
 generalize aX (tkA b) = TB at *
 generalize b.kind = bk at *
 by_cases h4 : bk = 4
 ·have k4 : (bk = 4) = True:=eq_true h4
  rw [if_pos h4]
  refine aC [] Tryz.func32 rfl Tryz.ntmps32 (Nat.le_of_ble_eq_true rfl) (Nat.le_of_ble_eq_true rfl) fun w0 G0 B0 Pr hB0=>?_
  simp only [aJ,aB,List.cons_append,List.nil_append]
  repeat' (first | (with_reducible refine hY _ ?_;clear hY Y) | ((with_reducible first | refine ar rfl (ay fun K' hK'=>aa ?_) | refine hK' _ (ab fun Y hY=>aa ?_) | refine ab fun Y hY=>aa ?_ | refine ae tk0 bq (ab fun Y hY=>aa ?_) | refine aa ?_ | refine aq ?_);(try clear hK' K');(try dsimp only [aop]);try simp only [go_sem,seval,bq,Tryz.results32,one,len,g0,g14',q1,q2,q3,q4,k4,na,ra,nb,rb]) | (with_reducible first | refine ag ?_ | refine aj ?_ | refine am ?_ | refine aF fun K hK=>?_ | refine ax ?_ | refine av ?_ | refine aZ ?_ | refine bh ?_ | refine ap ?_ | refine aA ?_) | (with_reducible refine hK _ ?_;clear hK K) | ((with_reducible refine ai ?_ ?_);(· decide)) | (with_reducible refine br ?_ ?_;(· (try and_intros) <;> first | omega | assumption | (simp only [List.length_append,List.length_map,List.length_cons,List.length_nil] <;> omega))) | (with_reducible refine ac (ca) ?_) | (with_reducible refine ac (cb) ?_) | (with_reducible refine bg (cE _ _ ?_) ?_;(· (try simp only [List.length_append,List.length_cons,List.length_nil]);omega)))
 ·have k4 : (bk = 4) = False:=eq_false h4
  rw [if_neg h4]
  refine aC [] Tryz.func32 rfl Tryz.ntmps32 (Nat.le_of_ble_eq_true rfl) (Nat.le_of_ble_eq_true rfl) fun w0 G0 B0 Pr hB0=>?_
  simp only [aJ,aB,List.cons_append,List.nil_append]
  repeat' (first | (with_reducible refine hY _ ?_;clear hY Y) | ((with_reducible first | refine ar rfl (ay fun K' hK'=>aa ?_) | refine hK' _ (ab fun Y hY=>aa ?_) | refine ab fun Y hY=>aa ?_ | refine ae tk0 bq (ab fun Y hY=>aa ?_) | refine aa ?_ | refine aq ?_);(try clear hK' K');(try dsimp only [aop]);try simp only [go_sem,seval,bq,Tryz.results32,one,len,g0,g14',q1,q2,q3,q4,k4,na,ra,nb,rb]) | (with_reducible first | refine ag ?_ | refine aj ?_ | refine am ?_ | refine aF fun K hK=>?_ | refine ax ?_ | refine av ?_ | refine aZ ?_ | refine bh ?_ | refine ap ?_ | refine aD ?_ | refine aA ?_) | (with_reducible refine hK _ ?_;clear hK K) | ((with_reducible refine ai ?_ ?_);(· decide)) | (with_reducible refine br ?_ ?_;(· (try and_intros) <;> first | omega | assumption | (simp only [List.length_append,List.length_map,List.length_cons,List.length_nil] <;> omega))) | (with_reducible refine ac (ca) ?_) | (with_reducible refine ac (cb) ?_) | (with_reducible refine bg (cE _ _ ?_) ?_;(· (try simp only [List.length_append,List.length_cons,List.length_nil]);omega)))
set_option maxRecDepth 100000 in
set_option maxHeartbeats 8000000 in
theorem CI (c : PC) (e v : PE) (f : Wd) (n : Int) (a b : PA) (hc : TxC c) (ha : TxA a) (hb : TxA b) : AFn Tryz.prog 32 [.agg (paA (.mk 5 c e v f n [a,b]))] [] (bs (aX (tkA (.mk 5 c e v f n [a,b])))) []:=by
 rw [Fq]
 obtain ⟨one,len,g0,s1,s4,s8,g12,g13,g14⟩:=paC 5 c e v f n [a,b]
 have e2 : eT [a,b] = paA a ++ paA b:=by simp [eT]
 rw [e2] at g14
 obtain ⟨q1,q2,q3⟩:=sS (eY a) (eY b)
 have na:=(dV a).nm3
 have ra:=(dV a).rn3
 have nb:=(dV b).nm3
 have rb:=(dV b).rn3
 obtain ⟨la,ca⟩:=ha
 obtain ⟨lb,cb⟩:=hb
 obtain ⟨lc,cc⟩:=hc
 have nc:=(dv c).nm3
 have rc:=(dv c).rn3
 have g14' : (paA (.mk 5 c e v f n [a,b])).getD 14 .u = .sl (paA a ++ paA b) 2 .none:=g14
 clear g14 e2
 generalize paA (.mk 5 c e v f n [a,b]) = AC at *
 generalize paA a ++ paA b = KS at *
 generalize paA a = A at *
 generalize paA b = B at *
 generalize bR c = CC at *
 generalize aX (tkC c) = TC at *
 generalize aX (tkA a) = TA at *
 generalize aX (tkA b) = TB at *
 refine aC [] Tryz.func32 rfl Tryz.ntmps32 (Nat.le_of_ble_eq_true rfl) (Nat.le_of_ble_eq_true rfl) fun w0 G0 B0 Pr hB0=>?_
 simp only [aJ,aB,List.cons_append,List.nil_append]
 repeat' (first | (with_reducible refine hY _ ?_;clear hY Y) | ((with_reducible first | refine ar rfl (ay fun K' hK'=>aa ?_) | refine hK' _ (ab fun Y hY=>aa ?_) | refine ab fun Y hY=>aa ?_ | refine ae tk0 bq (ab fun Y hY=>aa ?_) | refine aa ?_ | refine aq ?_ | refine cX rfl (dx fun K' hK'=>aa ?_) | refine hK' _ _ (ab fun Y hY=>aa ?_));(try clear hK' K');(try dsimp only [aop]);try simp only [go_sem,seval,bq,Tryz.results32,one,len,g0,g14',q1,q2,q3,s1,na,ra,nb,rb,nc,rc]) | (with_reducible first | refine ag ?_ | refine aj ?_ | refine am ?_ | refine aF fun K hK=>?_ | refine av ?_ | refine aR ?_ | refine ap ?_ | refine aD ?_ | refine aA ?_ | refine bV ?_ | refine eS fun K hK=>?_) | (with_reducible refine hK _ ?_;clear hK K) | (with_reducible refine hK _ _ ?_ ?_;(· kernel_rfl);clear hK K) | ((with_reducible refine ai ?_ ?_);(· decide)) | (with_reducible refine bU tk0 bq ?_ ?_;(· kernel_rfl)) | (with_reducible refine br ?_ ?_;(· (try and_intros) <;> first | omega | assumption | (simp only [List.length_append,List.length_map,List.length_cons,List.length_nil] <;> omega))) | (with_reducible refine ac (ca) ?_) | (with_reducible refine ac (cb) ?_) | (with_reducible refine ac (cc) ?_) | (with_reducible refine bg (cE _ _ ?_) ?_;(· (try simp only [List.length_append,List.length_cons,List.length_nil]);omega)))
theorem CJ (k : Int) (c : PC) (e v : PE) (f : Wd) (n : Int) (ks : List PA) (hs : seA (.mk k c e v f n ks) = true) (hc : seC c = true→TxC c) (he : seE e = true→TxE e) (hv : seE v = true→TxE v) (hk : ∀ a ∈ ks,TxA a) :
  AFn Tryz.prog 32 [.agg (paA (.mk k c e v f n ks))] [] (bs (aX (tkA (.mk k c e v f n ks)))) []:=by
 rw [seA,Bool.and_eq_true] at hs
 obtain ⟨hs,_⟩:=hs
 unfold vO mN at hs
 by_cases k0 : k = 0
 ·subst k0;exact Cz c e v f n ks
 rw [if_neg k0] at hs
 by_cases k1 : k = 1
 ·subst k1
  simp only [if_true,Bool.and_eq_true] at hs
  exact CB c e v f n ks (hc hs.2.1)
 rw [if_neg k1] at hs
 by_cases k2 : k = 2
 ·subst k2
  simp only [if_true,Bool.and_eq_true,decide_eq_true_eq] at hs
  have:=fE hs.2.2.1.2.1
  exact CD c e v f n ks (he hs.2.2.1.1) (by omega) (jq hs.2.2.1.2.2.1 hs.2.2.1.2.2.2)
 rw [if_neg k2] at hs
 by_cases k3 : k = 3
 ·subst k3
  simp only [if_true,Bool.and_eq_true,decide_eq_true_eq] at hs
  have:=fE hs.2.2.1.2.1
  exact CG c e v f n ks (he hs.2.2.1.1) (hv hs.2.2.2) (by omega) (jq hs.2.2.1.2.2.1 hs.2.2.1.2.2.2)
 rw [if_neg k3] at hs
 by_cases k4 : k = 4
 ·subst k4
  simp only [if_true,Bool.and_eq_true,decide_eq_true_eq] at hs
  obtain ⟨a,b,rfl⟩ : ∃ a b,ks = [a,b]:=by
   match ks,hs.1 with
   | [a,b],_=>exact ⟨a,b,rfl⟩
  exact CH c e v f n a b (hk a (by simp)) (hk b (by simp))
 rw [if_neg k4] at hs
 by_cases k5 : k = 5
 ·subst k5
  simp only [if_true,Bool.and_eq_true,decide_eq_true_eq] at hs
  obtain ⟨a,b,rfl⟩ : ∃ a b,ks = [a,b]:=by
   match ks,hs.1 with
   | [a,b],_=>exact ⟨a,b,rfl⟩
  exact CI c e v f n a b (hc hs.2.1) (hk a (by simp)) (hk b (by simp))
 ·rw [if_neg k5] at hs;cases hs
mutual
theorem pT : ∀ e,seA e = true→nA e≤1000000000→TxA e
 | .mk k c e v f n ks,hs,hn=>by
  have hl:=rz (.mk k c e v f n ks) hs
  have h1:=gk (tkA (.mk k c e v f n ks))
  have hs2:=hs
  rw [seA,Bool.and_eq_true] at hs2
  have hn2:=hn
  rw [nA] at hn2
  exact ⟨by omega,CJ k c e v f n ks hs (fun h=>(om c h (by omega)).1) (fun h=>(oo e h (by omega)).1) (fun h=>(oo v h (by omega)).1) (sQ ks hs2.2 (by omega))⟩
theorem sQ : ∀ l,lN l = true→nAs l≤1000000000→∀ a ∈ l,TxA a
 | [],_,_=>fun e he=>absurd he List.not_mem_nil
 | e :: r,hs,hn=>fun a ha=>by
  rw [lN,Bool.and_eq_true] at hs
  rw [nAs] at hn
  exact (List.mem_cons.1 ha).elim (fun q=>q ▸ pT e hs.1 (by omega)) (sQ r hs.2 (by omega) a)
end
end Go.Proofs.YtkjnkkmokojnpaaGreatDoor
namespace Go.Proofs.YtkjnkkmokojnpaaGreatDoor
set_option linter.unusedSimpArgs false
set_option linter.unusedVariables false
open Go.RowKit
theorem kn (l : List (List Wd)) : (ig l).length≤iW l:=by
 unfold ig;rw [uq];exact jt l
theorem rH : ∀ a b : List (List Wd),iW (a ++ b) = iW a + iW b
 | [],b=>by simp [iW]
 | x :: r,b=>by rw [List.cons_append,iW,iW,rH r b];omega
theorem yF (l : List (List Wd)) (k : Nat) : iW (l.take k)≤iW l:=by
 have h:=rH (l.take k) (l.drop k)
 rw [List.take_append_drop] at h
 omega
theorem C7 {l : List (List Wd)} {k : Nat} (h : k < l.length) : tl l[k]≤iW l:=by
 have h1:=rH (l.take k) (l.drop k)
 rw [List.take_append_drop,List.drop_eq_getElem_cons h,iW] at h1
 omega
theorem vB : ∀ l : List (List Wd),l.length≤iW l
 | []=>Nat.le_refl _
 | x :: r=>by have:=vB r;rw [iW,List.length_cons];omega
def cV : Nat→List Nat
 | 0=>[0]
 | 1=>[0]
 | 2=>[0,3]
 | 3=>[0,3,4]
 | 4=>[0,3,4]
 | 5=>[0,3,4]
 | 6=>[0,3,4]
 | 7=>[0,3,4]
 | 8=>[3]
 | _=>[]
set_option maxRecDepth 100000 in
set_option maxHeartbeats 4000000 in
theorem DQ (l : List (List Wd)) (b : Bool) (hl : Lg l) (hne : ∀ x ∈ l,x ≠ []) (hb : iW l≤1000000000000) : AFn Tryz.prog 31 [.sl (l.map fun x=>bs (aX x)) l.length (ofB b)] [] (bs (ig l)) []:=by
 unfold Lg at hl
 refine aC [] Tryz.func31 rfl Tryz.ntmps31 (Nat.le_of_ble_eq_true rfl) (Nat.le_of_ble_eq_true rfl) fun w0 G0 B0 Pr hB0=>?_
 simp only [aJ,aB,List.cons_append,List.nil_append]
 repeat' (first | (with_reducible refine hY _ ?_;clear hY Y) | ((with_reducible first | refine ar rfl (ay fun K' hK'=>aa ?_) | refine hK' _ (ab fun Y hY=>aa ?_) | refine ae tk0 cV (ab fun Y hY=>aa ?_));(try clear hK' K');(try dsimp only [aop]);try simp only [go_sem,seval,-Int.reduceNatCast,-Int.reduceNatCast',cV,Tryz.results31]) | (with_reducible first | refine ag ?_ | refine aj ?_ | refine am ?_ | refine aF fun K hK=>?_ | refine ap ?_ | refine bW ?_) | (with_reducible refine hK _ ?_;clear hK K))
 refine b9 (α:=Nat) (fun k=>[(0,.sl (l.map fun x=>bs (aX x)) l.length (ofB b)),(3,bs (ig (l.take k))),(4,inA (k : Int))])
  (fun k=>k≤l.length) (fun k=>l.length - k) 0 [0,3,4] ?_ (Nat.zero_le _) ?_
 ·simp only [go_sem,seval,-Int.reduceNatCast,-Int.reduceNatCast'] <;> rfl
 intro k hk ih
 by_cases hlt : k < l.length
 ·have hlt' : ((k : Int) < (l.length : Int)) = True:=eq_true (by omega)
  have hkw:=eB (n:=k) (by omega)
  have hg0:=lI (f:=fun x=>bs (aX x)) hlt
  have hfl : (l.map fun x=>bs (aX x)).length = l.length:=List.length_map ..
  have ht:=yc hlt (hne _ (List.getElem_mem hlt))
  have h1:=kn (l.take k)
  have h2:=yF l k
  have h3:=gk l[k]
  have h4:=C7 hlt
  have ihk:=ih (k + 1) (by omega) (by omega)
  rw [ht] at ihk
  clear ih ht hne
  generalize aX l[k] = t at *
  generalize ig (l.take k) = R at *
  by_cases hk0 : k = 0
  ·subst hk0
   rw [if_pos rfl] at ihk
   have hR : R = []:=by
    cases R with
    | nil=>rfl
    | cons a r=>simp [iW] at h1
   subst hR
   repeat' (first | (with_reducible refine hY _ ?_;clear hY Y) | ((with_reducible first | refine ar rfl (ay fun K' hK'=>aa ?_) | refine hK' _ (ab fun Y hY=>aa ?_) | refine ab fun Y hY=>aa ?_ | refine ae tk0 cV (ab fun Y hY=>aa ?_) | refine aa ?_);(try clear hK' K');(try dsimp only [aop]);try simp only [go_sem,seval,-Int.reduceNatCast,-Int.reduceNatCast',cV,Tryz.results31,hlt',hfl,hg0,hkw]) | (with_reducible first | refine ag ?_ | refine aj ?_ | refine am ?_ | refine aF fun K hK=>?_ | refine ax ?_ | refine aR ?_ | refine ap ?_ | refine aD ?_) | (with_reducible refine hK _ ?_;clear hK K) | ((with_reducible refine ai ?_ ?_);(· decide)) | ((with_reducible refine fu (fun hc=>?_) (fun hc=>?_)) <;> (try simp only [decide_eq_true_eq,decide_eq_false_iff_not,Bool.not_true,Bool.not_false,Bool.not_eq_true',Bool.not_eq_false'] at hc) <;> (try (exfalso;omega))) | (with_reducible refine br ?_ ?_;(· (try and_intros) <;> first | omega | assumption | (simp only [List.length_append,List.length_map,List.length_cons,List.length_nil] <;> omega))) | (with_reducible refine bg (cE _ _ ?_) ?_;(· (try simp only [List.length_append,List.length_cons,List.length_nil]);omega)))
   refine bi [0,3,4] (by simp only [go_sem,seval,-Int.reduceNatCast,-Int.reduceNatCast'];exact rfl) ?_
   exact dd ihk (by simp)
  ·rw [if_neg hk0] at ihk
   have hk0' : ((0 : Int) < (k : Int)) = True:=eq_true (by omega)
   repeat' (first | (with_reducible refine hY _ ?_;clear hY Y) | ((with_reducible first | refine ar rfl (ay fun K' hK'=>aa ?_) | refine hK' _ (ab fun Y hY=>aa ?_) | refine ab fun Y hY=>aa ?_ | refine ae tk0 cV (ab fun Y hY=>aa ?_) | refine aa ?_);(try clear hK' K');(try dsimp only [aop]);try simp only [go_sem,seval,-Int.reduceNatCast,-Int.reduceNatCast',cV,Tryz.results31,hlt',hfl,hg0,hkw,hk0']) | (with_reducible first | refine ag ?_ | refine aj ?_ | refine am ?_ | refine aF fun K hK=>?_ | refine ax ?_ | refine aR ?_ | refine ap ?_ | refine aD ?_) | (with_reducible refine hK _ ?_;clear hK K) | ((with_reducible refine ai ?_ ?_);(· decide)) | (with_reducible refine br ?_ ?_;(· (try and_intros) <;> first | omega | assumption | (simp only [List.length_append,List.length_map,List.length_cons,List.length_nil] <;> omega))) | (with_reducible refine bg (cE _ _ ?_) ?_;(· (try simp only [List.length_append,List.length_cons,List.length_nil]);omega)))
   refine bi [0,3,4] (by simp only [go_sem,seval,-Int.reduceNatCast,-Int.reduceNatCast'];exact rfl) ?_
   exact dd ihk (by simp)
 ·have hlt' : ((k : Int) < (l.length : Int)) = False:=eq_false (by omega)
  rw [List.take_of_length_le (by omega)]
  clear ih
  repeat' (first | (with_reducible refine hY _ ?_;clear hY Y) | ((with_reducible first | refine ar rfl (ay fun K' hK'=>aa ?_) | refine hK' _ (ab fun Y hY=>aa ?_) | refine ab fun Y hY=>aa ?_ | refine ae tk0 cV (ab fun Y hY=>aa ?_) | refine aa ?_ | refine aq ?_);(try clear hK' K');(try dsimp only [aop]);try simp only [go_sem,seval,-Int.reduceNatCast,-Int.reduceNatCast',cV,Tryz.results31,hlt']) | (with_reducible first | refine ag ?_ | refine aj ?_ | refine am ?_ | refine aF fun K hK=>?_ | refine av ?_ | refine cf ?_ | refine bI ?_ | refine aA ?_ | refine bH ?_) | (with_reducible refine hK _ ?_;clear hK K) | ((with_reducible refine ai ?_ ?_);(· decide)))
theorem wl (l : List Wd) (b : Bool) (hl : Lg l) (hb : iW (l.map fun x=>[x])≤1000000000000) : AFn Tryz.prog 31 [.sl (l.map bs) l.length (ofB b)] [] (bs (ig (l.map fun x=>[x]))) []:=by
 have h:=DQ (l.map fun x=>[x]) b (by unfold Lg at *;rw [List.length_map];exact hl) (fun x hx=>by obtain ⟨y,_,rfl⟩:=List.mem_map.1 hx;simp) hb
 rw [List.map_map,List.length_map] at h
 exact h
def di : Nat→List Nat
 | 0=>[0]
 | 1=>[0]
 | 2=>[0,3]
 | 3=>[0,3,4]
 | 4=>[0,3,4]
 | 5=>[0,3,4]
 | 6=>[3]
 | _=>[]
set_option maxRecDepth 100000 in
set_option maxHeartbeats 4000000 in
theorem vv (l : List PE) (hl : Lg l) (hb : iW (l.map tkE)≤1000000000000) (hc : ∀ a ∈ l,TxE a) : AFn Tryz.prog 169 [.sl (bY l) l.length .none] [] (bs (ig (l.map tkE))) []:=by
 have hr:=DQ (l.map tkE) false (by unfold Lg at *;rw [List.length_map];exact hl) (fun x hx=>by obtain ⟨y,_,rfl⟩:=List.mem_map.1 hx;exact rF y) hb
 rw [List.map_map,List.length_map] at hr
 have hl2:=vB (l.map tkE)
 rw [List.length_map] at hl2
 unfold Lg at hl
 obtain ⟨F,hF⟩ : ∃ F : PE→AV,F = (fun x=>bs (aX x)) ∘ tkE:=⟨_,rfl⟩
 rw [← hF] at hr
 generalize ig (l.map tkE) = R at *
 refine aC [] Tryz.func169 rfl Tryz.ntmps169 (Nat.le_of_ble_eq_true rfl) (Nat.le_of_ble_eq_true rfl) fun w0 G0 B0 Pr hB0=>?_
 simp only [aJ,aB,List.cons_append,List.nil_append]
 repeat' (first | (with_reducible refine hY _ ?_;clear hY Y) | ((with_reducible first | refine ar rfl (ay fun K' hK'=>aa ?_) | refine hK' _ (ab fun Y hY=>aa ?_) | refine ae tk0 di (ab fun Y hY=>aa ?_));(try clear hK' K');(try dsimp only [aop]);try simp only [go_sem,seval,-Int.reduceNatCast,-Int.reduceNatCast',di,Tryz.results169]) | (with_reducible first | refine ag ?_ | refine aj ?_ | refine am ?_ | refine aF fun K hK=>?_ | refine ap ?_ | refine bW ?_) | (with_reducible refine hK _ ?_;clear hK K))
 refine jS (nh (b:=10018) (t:=3) 9 (by decide) (by decide) rfl rfl) ?_
 refine b9 (α:=Nat) (fun k=>[(0,.sl (bY l) l.length .none),(3,.sl ((l.take k).map F) k (.tok 10018)),(4,inA (k : Int)),(10018,.bt k 9)])
  (fun k=>k≤l.length) (fun k=>l.length - k) 0 [0,3,4] ?_ (Nat.zero_le _) ?_
 ·simp only [go_sem,seval,-Int.reduceNatCast,-Int.reduceNatCast'] <;> rfl
 intro k hk ih
 by_cases hlt : k < l.length
 ·have hlt' : ((k : Int) < (l.length : Int)) = True:=eq_true (by omega)
  have hkw:=eB (n:=k) (by omega)
  have hg0:=kQ hlt
  have hfl:=iK l
  have hst : (l.take (k + 1)).map F = (l.take k).map F ++ [F l[k]]:=by rw [List.take_succ_eq_append_getElem hlt,List.map_append];rfl
  have hlen : ((l.take k).map F).length = k:=by simp;omega
  obtain ⟨_,c1⟩:=hc l[k] (List.getElem_mem hlt)
  have ihk:=ih (k + 1) (by omega) (by omega)
  rw [hst] at ihk
  have hFk : F l[k] = bs (aX (tkE l[k])):=by rw [hF];rfl
  rw [hFk] at ihk
  have nE':=(cQ l[k]).nm3
  have rE':=(cQ l[k]).rn3
  clear ih hst hc hr hF hFk
  generalize l[k] = t at *
  generalize peA t = TC at *
  generalize aX (tkE t) = TT at *
  generalize (l.take k).map F = M at *
  repeat' (first | (with_reducible refine hY _ ?_;clear hY Y) | ((with_reducible first | refine ar rfl (ay fun K' hK'=>aa ?_) | refine hK' _ (ab fun Y hY=>aa ?_) | refine ab fun Y hY=>aa ?_ | refine ae tk0 di (ab fun Y hY=>aa ?_) | refine aa ?_);(try clear hK' K');(try dsimp only [aop]);try simp only [go_sem,seval,-Int.reduceNatCast,-Int.reduceNatCast',di,Tryz.results169,hlt',hfl,hg0,hkw,nE',rE',hlen]) | (with_reducible first | refine ag ?_ | refine aj ?_ | refine am ?_ | refine aF fun K hK=>?_ | refine ax ?_ | refine aR ?_ | refine ap ?_ | refine aD ?_) | (with_reducible refine hK _ ?_;clear hK K) | ((with_reducible refine ai ?_ ?_);(· decide)) | (with_reducible refine br ?_ ?_;(· (try and_intros) <;> first | omega | assumption | (simp only [List.length_append,List.length_map,List.length_cons,List.length_nil] <;> omega))) | (with_reducible refine ac (c1) ?_))
  refine bi [0,3,4] (by simp only [go_sem,seval,-Int.reduceNatCast,-Int.reduceNatCast'];exact rfl) ?_
  exact dd ihk (by simp)
 ·have hlt' : ((k : Int) < (l.length : Int)) = False:=eq_false (by omega)
  obtain rfl : k = l.length:=by omega
  rw [List.take_length]
  simp only [ofB] at hr
  clear ih
  generalize l.map F = M at *
  have hr2 : AFn Tryz.prog 31 [.sl M l.length (.tok 20000)] [.bt l.length 9] (bs R) [.bt l.length 9]:=sj hr rfl
  clear hr
  repeat' (first | (with_reducible refine hY _ ?_;clear hY Y) | ((with_reducible first | refine ar rfl (ay fun K' hK'=>aa ?_) | refine hK' _ (ab fun Y hY=>aa ?_) | refine ab fun Y hY=>aa ?_ | refine ae tk0 di (ab fun Y hY=>aa ?_) | refine aa ?_ | refine aq ?_);(try clear hK' K');(try dsimp only [aop]);try simp only [go_sem,seval,-Int.reduceNatCast,-Int.reduceNatCast',di,Tryz.results169,hlt']) | (with_reducible first | refine ag ?_ | refine aj ?_ | refine am ?_ | refine aF fun K hK=>?_ | refine av ?_ | refine cf ?_ | refine bI ?_ | refine aA ?_ | refine bH ?_) | (with_reducible refine hK _ ?_;clear hK K) | ((with_reducible refine ai ?_ ?_);(· decide)) | (with_reducible refine ac (hr2) ?_))
structure TxS (a : PS') : Prop where
 len : (aX (tkS a)).length≤1000000000000
 tells : AFn Tryz.prog 90 [.agg (psA a)] [] (bs (aX (tkS a))) []
structure vK (l : List PS') : Prop where
 len : (ly l).length≤1000000000000
 tells : AFn Tryz.prog 33 [.sl (dU l) l.length .none] [] (bs (ly l)) []
theorem Bf (l : List PS') (k : Nat) : (gB (eE (l.take k))).length≤(gB (eE l)).length:=by
 have app : ∀ a b : List PS',eE (a ++ b) = eE a ++ eE b:=fun a b=>by
  induction a with
  | nil=>rfl
  | cons x r ih=>rw [List.cons_append,eE,eE,ih,List.append_assoc]
 have h : eE l = eE (l.take k) ++ eE (l.drop k):=by rw [← app,List.take_append_drop]
 rw [h,du,List.length_append];omega
def dk : Nat→List Nat
 | 0=>[0]
 | 1=>[0]
 | 2=>[0,3]
 | 3=>[0,3,4]
 | 4=>[0,3,4]
 | 5=>[0,3,4]
 | 6=>[3]
 | _=>[]
set_option maxRecDepth 100000 in
set_option maxHeartbeats 4000000 in
theorem qp (l : List PS') (hl : Lg l) (hb : (ly l).length≤1000000000000) (hc : ∀ a ∈ l,TxS a) : vK l:=by
 refine ⟨hb,?_⟩
 unfold Lg at hl
 have hb2 : (gB (eE l)).length≤1000000000000:=by unfold ly at hb;simp only [List.length_append] at hb;omega
 unfold ly
 clear hb
 refine aC [] Tryz.func33 rfl Tryz.ntmps33 (Nat.le_of_ble_eq_true rfl) (Nat.le_of_ble_eq_true rfl) fun w0 G0 B0 Pr hB0=>?_
 simp only [aJ,aB,List.cons_append,List.nil_append]
 repeat' (first | (with_reducible refine hY _ ?_;clear hY Y) | ((with_reducible first | refine ar rfl (ay fun K' hK'=>aa ?_) | refine hK' _ (ab fun Y hY=>aa ?_) | refine ae tk0 dk (ab fun Y hY=>aa ?_));(try clear hK' K');(try dsimp only [aop]);try simp only [go_sem,seval,-Int.reduceNatCast,-Int.reduceNatCast',dk,Tryz.results33]) | (with_reducible first | refine ag ?_ | refine aj ?_ | refine am ?_ | refine aF fun K hK=>?_ | refine ap ?_ | refine bW ?_) | (with_reducible refine hK _ ?_;clear hK K))
 refine b9 (α:=Nat) (fun k=>[(0,.sl (dU l) l.length .none),(3,bs ([123,32] ++ gB (eE (l.take k)))),(4,inA (k : Int))])
  (fun k=>k≤l.length) (fun k=>l.length - k) 0 [0,3,4] ?_ (Nat.zero_le _) ?_
 ·simp only [go_sem,seval,-Int.reduceNatCast,-Int.reduceNatCast'] <;> rfl
 intro k hk ih
 by_cases hlt : k < l.length
 ·have hlt' : ((k : Int) < (l.length : Int)) = True:=eq_true (by omega)
  have hkw:=eB (n:=k) (by omega)
  have hg0:=kS hlt
  have hfl:=jk l
  have hst:=Be hlt
  have hle:=Bf l k
  obtain ⟨lt,c1⟩:=hc l[k] (List.getElem_mem hlt)
  have ihk:=ih (k + 1) (by omega) (by omega)
  rw [hst] at ihk
  have nS':=(sJ l[k]).nm3
  have rS':=(sJ l[k]).rn3
  clear ih hst hc
  generalize l[k] = t at *
  generalize psA t = TC at *
  generalize aX (tkS t) = TT at *
  generalize gB (eE (l.take k)) = M at *
  repeat' (first | (with_reducible refine hY _ ?_;clear hY Y) | ((with_reducible first | refine ar rfl (ay fun K' hK'=>aa ?_) | refine hK' _ (ab fun Y hY=>aa ?_) | refine ab fun Y hY=>aa ?_ | refine ae tk0 dk (ab fun Y hY=>aa ?_) | refine aa ?_);(try clear hK' K');(try dsimp only [aop]);try simp only [go_sem,seval,-Int.reduceNatCast,-Int.reduceNatCast',dk,Tryz.results33,hlt',hfl,hg0,hkw,nS',rS']) | (with_reducible first | refine ag ?_ | refine aj ?_ | refine am ?_ | refine aF fun K hK=>?_ | refine ax ?_ | refine aR ?_ | refine ap ?_ | refine aD ?_) | (with_reducible refine hK _ ?_;clear hK K) | ((with_reducible refine ai ?_ ?_);(· decide)) | (with_reducible refine br ?_ ?_;(· (try and_intros) <;> first | omega | assumption | (simp only [List.length_append,List.length_map,List.length_cons,List.length_nil] <;> omega))) | (with_reducible refine ac (c1) ?_) | (with_reducible refine bg (cE _ _ ?_) ?_;(· (try simp only [List.length_append,List.length_cons,List.length_nil]);omega)))
  refine bi [0,3,4] (by simp only [go_sem,seval,-Int.reduceNatCast,-Int.reduceNatCast'];exact rfl) ?_
  exact dd ihk (by simp)
 ·have hlt' : ((k : Int) < (l.length : Int)) = False:=eq_false (by omega)
  rw [List.take_of_length_le (by omega)]
  clear ih hc
  generalize gB (eE l) = M at *
  repeat' (first | (with_reducible refine hY _ ?_;clear hY Y) | ((with_reducible first | refine ar rfl (ay fun K' hK'=>aa ?_) | refine hK' _ (ab fun Y hY=>aa ?_) | refine ab fun Y hY=>aa ?_ | refine ae tk0 dk (ab fun Y hY=>aa ?_) | refine aa ?_ | refine aq ?_);(try clear hK' K');(try dsimp only [aop]);try simp only [go_sem,seval,-Int.reduceNatCast,-Int.reduceNatCast',dk,Tryz.results33,hlt']) | (with_reducible first | refine ag ?_ | refine aj ?_ | refine am ?_ | refine aF fun K hK=>?_ | refine av ?_ | refine cf ?_ | refine bI ?_ | refine aA ?_ | refine bH ?_) | (with_reducible refine hK _ ?_;clear hK K) | ((with_reducible refine ai ?_ ?_);(· decide)) | (with_reducible refine bg (cE _ _ ?_) ?_;(· (try simp only [List.length_append,List.length_cons,List.length_nil]);omega)))
end Go.Proofs.YtkjnkkmokojnpaaGreatDoor
