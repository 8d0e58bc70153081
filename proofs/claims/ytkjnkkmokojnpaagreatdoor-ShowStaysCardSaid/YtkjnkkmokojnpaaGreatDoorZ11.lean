/- show's writer in K: assertions. show's writer in K: lists, blocks. -/
import Derived.Test.YtkjnkkmokojnpaaGreatDoorZ10
import Derived.Test.YtkjnkkmokojnpaaGreatDoorZ7
namespace Go.Proofs.YtkjnkkmokojnpaaGreatDoor
set_option linter.unusedSimpArgs false
set_option linter.unusedVariables false
open Go.RowKit
abbrev WrA (a : PA) : Prop:=Wr 37 [.agg (paA a)] (tkA a)
structure FS (k : Int) (c : PC) (e v : PE) (f : Wd) (n : Int) (ks : List PA) (A : List AV) : Prop where
 one : eG A = true
 len : A.length = 15
 g0 : A.getD 0 .u = inA k
 s1 : (A.drop 1).take 3 = bR c
 s4 : (A.drop 4).take 4 = peA e
 s8 : (A.drop 8).take 4 = peA v
 g12 : A.getD 12 .u = bs f
 g13 : A.getD 13 .u = inA n
 g14 : A.getD 14 .u = .sl (eT ks) ks.length .none
theorem x7 (k : Int) (c : PC) (e v : PE) (f : Wd) (n : Int) (ks : List PA) : FS k c e v f n ks (paA (.mk k c e v f n ks)):=by
 obtain ⟨ck,ce,cks⟩:=c
 obtain ⟨ek,en,ex,eks⟩:=e
 obtain ⟨vk,vn,vx,vks⟩:=v
 constructor <;> simp [paA,bR,peA,eG,AV.one,Value.oneCell']
theorem Cf (a : PA) (r : List AV) : (paA a++r).getD 0 .u = inA a.kind:=by
 obtain ⟨k,c,e,v,f,n,ks⟩:=a
 simp [paA,PA.kind]
theorem x6 (a b : PA) : (paA a++paA b).getD 15 .u = inA b.kind:=by
 have h:=eY a
 rw [List.getD_eq_getElem?_getD,List.getElem?_append_right (by omega),h]
 have:=Cf b []
 rw [List.append_nil,List.getD_eq_getElem?_getD] at this
 exact this
def bK : Nat→List Nat
|0=>[0,1]
|1=>[0,3]
|2=>[0,3,5]
|3=>[0]
|4=>[0,3,5]
|5=>[0,3]
|6=>[0,3,5]
|7=>[0,3,5]
|8=>[0,3]
|9=>[0,3]
|10=>[0,3]
|11=>[0,3]
|12=>[0,3]
|13=>[0,3]
|14=>[0,3]
|15=>[0]
|16=>[0,3,5]
|17=>[0,3]
|18=>[0,3]
|19=>[0,3]
|20=>[0,3]
|21=>[0,3]
|22=>[0]
|23=>[0,3]
|24=>[0,3,5]
|25=>[0,3]
|26=>[0,3]
|27=>[0,3]
|28=>[0,3]
|29=>[0,3]
|30=>[0,3]
|31=>[0]
|_=>[]
set_option maxRecDepth 100000 in
set_option maxHeartbeats 8000000 in
theorem Db (c : PC) (e v : PE) (f : Wd) (n : Int) (ks : List PA) : WrA (.mk 0 c e v f n ks):=fun M m hM hb=>by
 have hW : tkA (.mk 0 c e v f n ks) = [[101,109,112]]:=by rw [tkA];rfl
 rw [hW] at hb ⊢
 simp only [List.length_append,List.length_cons,List.length_nil] at hb
 obtain ⟨one,len,g0,s1,s4,s8,g12,g13,g14⟩:=x7 0 c e v f n ks
 generalize paA (.mk 0 c e v f n ks) = AC at *
 refine aC [] Tryz.func37 rfl Tryz.ntmps37 (Nat.le_of_ble_eq_true rfl) (Nat.le_of_ble_eq_true rfl) fun w0 G0 B0 Pr hB0=>?_
 simp only [aJ,aB,List.cons_append,List.nil_append]
 repeat' (first|(with_reducible refine hY _ ?_;clear hY Y)|((with_reducible first|refine ar rfl (ay fun K' hK'=>aa ?_)|refine hK' _ (ab fun Y hY=>aa ?_)|refine ab fun Y hY=>aa ?_|refine ae tk0 bK (ab fun Y hY=>aa ?_)|refine aa ?_|refine dw ?_);(try clear hK' K');(try dsimp only [aop]);try simp only [go_sem,seval,bK,Tryz.results37,hM,one,len,g0])|(with_reducible first|refine ag ?_|refine aj ?_|refine am ?_|refine aF fun K hK=>?_|refine ax ?_|refine aR ?_|refine ap ?_)|(with_reducible refine hK _ ?_;clear hK K)|((with_reducible refine ai ?_ ?_);(· decide))|(with_reducible refine ac (fq _ _ ?_ _ _ ?_ ?_) ?_;(· simp);(· ((try simp only [List.length_append,List.length_map,List.length_cons,List.length_nil,List.take_length]);omega));(· omega)))
set_option maxRecDepth 100000 in
set_option maxHeartbeats 8000000 in
theorem Dc (c : PC) (e v : PE) (f : Wd) (n : Int) (ks : List PA) (hc : WrX c) : WrA (.mk 1 c e v f n ks):=fun M m hM hb=>by
 have hW : tkA (.mk 1 c e v f n ks) = fT true (tkC c):=by rw [tkA];rfl
 rw [hW] at hb ⊢
 obtain ⟨one,len,g0,s1,s4,s8,g12,g13,g14⟩:=x7 1 c e v f n ks
 have cc:=hc true
 have nc:=(dv c).nm3
 have rc:=(dv c).rn3
 generalize paA (.mk 1 c e v f n ks) = AC at *
 generalize bR c = CC at *
 generalize fT true (tkC c) = TC at *
 clear hc hW
 refine aC [] Tryz.func37 rfl Tryz.ntmps37 (Nat.le_of_ble_eq_true rfl) (Nat.le_of_ble_eq_true rfl) fun w0 G0 B0 Pr hB0=>?_
 simp only [aJ,aB,List.cons_append,List.nil_append]
 repeat' (first|(with_reducible refine hY _ ?_;clear hY Y)|((with_reducible first|refine ar rfl (ay fun K' hK'=>aa ?_)|refine hK' _ (ab fun Y hY=>aa ?_)|refine ab fun Y hY=>aa ?_|refine ae tk0 bK (ab fun Y hY=>aa ?_)|refine aa ?_|refine dw ?_);(try clear hK' K');(try dsimp only [aop]);try simp only [go_sem,seval,bK,Tryz.results37,hM,one,len,g0,s1,nc,rc])|(with_reducible first|refine ag ?_|refine aj ?_|refine am ?_|refine aF fun K hK=>?_|refine ax ?_|refine av ?_|refine aR ?_|refine ap ?_)|(with_reducible refine hK _ ?_;clear hK K)|((with_reducible refine ai ?_ ?_);(· decide))|(with_reducible refine ac (cc _ _ ?_ ?_) ?_;(· ((try simp only [List.length_append,List.length_map,List.length_cons,List.length_nil,List.take_length]);omega));(· omega)))
set_option maxRecDepth 100000 in
set_option maxHeartbeats 8000000 in
theorem Dd (hi : ItC) (c : PC) (e v : PE) (f : Wd) (n : Int) (ks : List PA) (he : WrE e) (hn : gK n = true) : WrA (.mk 2 c e v f n ks):=fun M m hM hb=>by
 have hW : tkA (.mk 2 c e v f n ks) = [[97,99,99],[40]]++tkE e++[[46],f,[44]]++fR n++[[41]]:=by rw [tkA];simp
 rw [hW] at hb ⊢
 obtain ⟨one,len,g0,s1,s4,s8,g12,g13,g14⟩:=x7 2 c e v f n ks
 unfold WrE at he
 have nc:=(cQ e).nm3
 have rc:=(cQ e).rn3
 have cn:=md hi hn
 generalize paA (.mk 2 c e v f n ks) = AC at *
 generalize peA e = CC at *
 generalize tkE e = TC at *
 generalize fR n = D at *
 clear hW
 simp only [List.length_append,List.length_cons,List.length_nil] at hb
 have wz0 : IntKind.i64.wrap 0 = 0:=rfl
 refine aC [] Tryz.func37 rfl Tryz.ntmps37 (Nat.le_of_ble_eq_true rfl) (Nat.le_of_ble_eq_true rfl) fun w0 G0 B0 Pr hB0=>?_
 simp only [aJ,aB,List.cons_append,List.nil_append]
 repeat' (first|(with_reducible refine hY _ ?_;clear hY Y)|((with_reducible first|refine ar rfl (ay fun K' hK'=>aa ?_)|refine hK' _ (ab fun Y hY=>aa ?_)|refine ab fun Y hY=>aa ?_|refine ae tk0 bK (ab fun Y hY=>aa ?_)|refine aa ?_|refine dw ?_);(try clear hK' K');(try dsimp only [aop]);try simp only [go_sem,seval,bK,Tryz.results37,wz0,hM,one,len,g0,s4,g12,g13,nc,rc])|(with_reducible first|refine ag ?_|refine aj ?_|refine am ?_|refine aF fun K hK=>?_|refine ax ?_|refine av ?_|refine aR ?_|refine ap ?_|refine aD ?_)|(with_reducible refine hK _ ?_;clear hK K)|((with_reducible refine ai ?_ ?_);(· decide))|(with_reducible refine br ?_ ?_;(· (try and_intros) <;> first|omega|assumption|(simp only [List.length_append,List.length_map,List.length_cons,List.length_nil] <;> omega)))|(with_reducible refine ac (he _ _ ?_ ?_) ?_;(· ((try simp only [List.length_append,List.length_map,List.length_cons,List.length_nil,List.take_length]);omega));(· omega))|(with_reducible refine ac (cn _ _ ?_ ?_) ?_;(· ((try simp only [List.length_append,List.length_map,List.length_cons,List.length_nil,List.take_length]);omega));(· omega))|(with_reducible refine ac (fq _ _ ?_ _ _ ?_ ?_) ?_;(· simp);(· ((try simp only [List.length_append,List.length_map,List.length_cons,List.length_nil,List.take_length]);omega));(· omega)))
 all_goals (simp <;> omega)
set_option maxRecDepth 100000 in
set_option maxHeartbeats 8000000 in
theorem De (hi : ItC) (c : PC) (e v : PE) (f : Wd) (n : Int) (ks : List PA) (he : WrE e) (hv : WrE v) (hn : gK n = true) : WrA (.mk 3 c e v f n ks):=fun M m hM hb=>by
 have hW : tkA (.mk 3 c e v f n ks) = [[112,116,115],[40]]++tkE e++[[46],f,[44]]++fR n++[[44]]++tkE v++[[41]]:=by rw [tkA];simp
 rw [hW] at hb ⊢
 obtain ⟨one,len,g0,s1,s4,s8,g12,g13,g14⟩:=x7 3 c e v f n ks
 unfold WrE at he hv
 have nc:=(cQ e).nm3
 have rc:=(cQ e).rn3
 have nv:=(cQ v).nm3
 have rv:=(cQ v).rn3
 have cn:=md hi hn
 generalize paA (.mk 3 c e v f n ks) = AC at *
 generalize peA e = CC at *
 generalize tkE e = TC at *
 generalize peA v = CV at *
 generalize tkE v = TV at *
 generalize fR n = D at *
 clear hW
 simp only [List.length_append,List.length_cons,List.length_nil] at hb
 have wz1 : IntKind.i64.wrap 1 = 1:=rfl
 refine aC [] Tryz.func37 rfl Tryz.ntmps37 (Nat.le_of_ble_eq_true rfl) (Nat.le_of_ble_eq_true rfl) fun w0 G0 B0 Pr hB0=>?_
 simp only [aJ,aB,List.cons_append,List.nil_append]
 repeat' (first|(with_reducible refine hY _ ?_;clear hY Y)|((with_reducible first|refine ar rfl (ay fun K' hK'=>aa ?_)|refine hK' _ (ab fun Y hY=>aa ?_)|refine ab fun Y hY=>aa ?_|refine ae tk0 bK (ab fun Y hY=>aa ?_)|refine aa ?_|refine dw ?_);(try clear hK' K');(try dsimp only [aop]);try simp only [go_sem,seval,bK,Tryz.results37,wz1,hM,one,len,g0,s4,s8,g12,g13,nc,rc,nv,rv])|(with_reducible first|refine ag ?_|refine aj ?_|refine am ?_|refine aF fun K hK=>?_|refine ax ?_|refine av ?_|refine aR ?_|refine ap ?_)|(with_reducible refine hK _ ?_;clear hK K)|((with_reducible refine ai ?_ ?_);(· decide))|(with_reducible refine br ?_ ?_;(· (try and_intros) <;> first|omega|assumption|(simp only [List.length_append,List.length_map,List.length_cons,List.length_nil] <;> omega)))|(with_reducible refine ac (he _ _ ?_ ?_) ?_;(· ((try simp only [List.length_append,List.length_map,List.length_cons,List.length_nil,List.take_length]);omega));(· omega))|(with_reducible refine ac (hv _ _ ?_ ?_) ?_;(· ((try simp only [List.length_append,List.length_map,List.length_cons,List.length_nil,List.take_length]);omega));(· omega))|(with_reducible refine ac (cn _ _ ?_ ?_) ?_;(· ((try simp only [List.length_append,List.length_map,List.length_cons,List.length_nil,List.take_length]);omega));(· omega))|(with_reducible refine ac (fq _ _ ?_ _ _ ?_ ?_) ?_;(· simp);(· ((try simp only [List.length_append,List.length_map,List.length_cons,List.length_nil,List.take_length]);omega));(· omega)))
 all_goals (simp <;> omega)
set_option maxRecDepth 100000 in
set_option maxHeartbeats 8000000 in
theorem Df (c : PC) (e v : PE) (f : Wd) (n : Int) (a b : PA) (ha : WrA a) (hb' : WrA b) : WrA (.mk 4 c e v f n [a,b]):=fun M m hM hb=>by
 have hW : tkA (.mk 4 c e v f n [a,b]) = tkA a++[[38]]++(if b.kind = 4 then [[40]]++tkA b++[[41]] else tkA b):=by rw [tkA,lT];simp
 rw [hW] at hb ⊢
 obtain ⟨one,len,g0,s1,s4,s8,g12,g13,g14⟩:=x7 4 c e v f n [a,b]
 unfold WrA at ha hb'
 have e2 : eT [a,b] = paA a++paA b:=by simp [eT]
 rw [e2] at g14
 obtain ⟨q1,q2,q3⟩:=oV (eY a) (eY b)
 have na:=(dV a).nm3
 have ra:=(dV a).rn3
 have nb:=(dV b).nm3
 have rb:=(dV b).rn3
 have q4:=x6 a b
 have g14' : (paA (.mk 4 c e v f n [a,b])).getD 14 .u = .sl (paA a++paA b) 2 .none:=g14
 clear g14 e2 hW
 generalize paA (.mk 4 c e v f n [a,b]) = AC at *
 generalize paA a++paA b = KS at *
 generalize paA a = A at *
 generalize paA b = B at *
 generalize tkA a = TA at *
 generalize tkA b = TB at *
 generalize b.kind = bk at *
 by_cases h4 : bk = 4
 ·have k4 : (bk = 4) = True:=eq_true h4
  rw [if_pos h4] at hb ⊢
  simp only [List.length_append,List.length_cons,List.length_nil] at hb
  refine aC [] Tryz.func37 rfl Tryz.ntmps37 (Nat.le_of_ble_eq_true rfl) (Nat.le_of_ble_eq_true rfl) fun w0 G0 B0 Pr hB0=>?_
  simp only [aJ,aB,List.cons_append,List.nil_append]
  repeat' (first|(with_reducible refine hY _ ?_;clear hY Y)|((with_reducible first|refine ar rfl (ay fun K' hK'=>aa ?_)|refine hK' _ (ab fun Y hY=>aa ?_)|refine ab fun Y hY=>aa ?_|refine ae tk0 bK (ab fun Y hY=>aa ?_)|refine aa ?_|refine aq ?_);(try clear hK' K');(try dsimp only [aop]);try simp only [go_sem,seval,bK,Tryz.results37,hM,one,len,g0,g14',q1,q2,q3,q4,k4,na,ra,nb,rb])|(with_reducible first|refine ag ?_|refine aj ?_|refine am ?_|refine aF fun K hK=>?_|refine ax ?_|refine av ?_|refine aZ ?_|refine bh ?_|refine ap ?_|refine aA ?_)|(with_reducible refine hK _ ?_;clear hK K)|((with_reducible refine ai ?_ ?_);(· decide))|(with_reducible refine br ?_ ?_;(· (try and_intros) <;> first|omega|assumption|(simp only [List.length_append,List.length_map,List.length_cons,List.length_nil] <;> omega)))|(with_reducible refine ac (ha _ _ ?_ ?_) ?_;(· ((try simp only [List.length_append,List.length_map,List.length_cons,List.length_nil,List.take_length]);omega));(· omega))|(with_reducible refine ac (hb' _ _ ?_ ?_) ?_;(· ((try simp only [List.length_append,List.length_map,List.length_cons,List.length_nil,List.take_length]);omega));(· omega))|(with_reducible refine ac (fq _ _ ?_ _ _ ?_ ?_) ?_;(· simp);(· ((try simp only [List.length_append,List.length_map,List.length_cons,List.length_nil,List.take_length]);omega));(· omega)))
  all_goals (simp <;> omega)
 ·have k4 : (bk = 4) = False:=eq_false h4
  rw [if_neg h4] at hb ⊢
  simp only [List.length_append,List.length_cons,List.length_nil] at hb
  refine aC [] Tryz.func37 rfl Tryz.ntmps37 (Nat.le_of_ble_eq_true rfl) (Nat.le_of_ble_eq_true rfl) fun w0 G0 B0 Pr hB0=>?_
  simp only [aJ,aB,List.cons_append,List.nil_append]
  repeat' (first|(with_reducible refine hY _ ?_;clear hY Y)|((with_reducible first|refine ar rfl (ay fun K' hK'=>aa ?_)|refine hK' _ (ab fun Y hY=>aa ?_)|refine ab fun Y hY=>aa ?_|refine ae tk0 bK (ab fun Y hY=>aa ?_)|refine aa ?_|refine dw ?_);(try clear hK' K');(try dsimp only [aop]);try simp only [go_sem,seval,bK,Tryz.results37,hM,one,len,g0,g14',q1,q2,q3,q4,k4,na,ra,nb,rb])|(with_reducible first|refine ag ?_|refine aj ?_|refine am ?_|refine aF fun K hK=>?_|refine ax ?_|refine av ?_|refine aR ?_|refine ap ?_|refine aD ?_)|(with_reducible refine hK _ ?_;clear hK K)|((with_reducible refine ai ?_ ?_);(· decide))|(with_reducible refine br ?_ ?_;(· (try and_intros) <;> first|omega|assumption|(simp only [List.length_append,List.length_map,List.length_cons,List.length_nil] <;> omega)))|(with_reducible refine ac (ha _ _ ?_ ?_) ?_;(· ((try simp only [List.length_append,List.length_map,List.length_cons,List.length_nil,List.take_length]);omega));(· omega))|(with_reducible refine ac (hb' _ _ ?_ ?_) ?_;(· ((try simp only [List.length_append,List.length_map,List.length_cons,List.length_nil,List.take_length]);omega));(· omega))|(with_reducible refine ac (fq _ _ ?_ _ _ ?_ ?_) ?_;(· simp);(· ((try simp only [List.length_append,List.length_map,List.length_cons,List.length_nil,List.take_length]);omega));(· omega)))
  all_goals (simp <;> omega)
set_option maxRecDepth 100000 in
set_option maxHeartbeats 8000000 in
theorem Dg (c : PC) (e v : PE) (f : Wd) (n : Int) (a b : PA) (hc : jP c) (ha : WrA a) (hb' : WrA b) : WrA (.mk 5 c e v f n [a,b]):=fun M m hM hb=>by
 have hW : tkA (.mk 5 c e v f n [a,b]) = [[105,102]]++tkC c++[[123]]++tkA a++[[125],[101,108,115,101],[123]]++tkA b++[[125]]:=by rw [tkA,lT];simp
 rw [hW] at hb ⊢
 obtain ⟨one,len,g0,s1,s4,s8,g12,g13,g14⟩:=x7 5 c e v f n [a,b]
 unfold WrA at ha hb'
 unfold jP at hc
 have e2 : eT [a,b] = paA a++paA b:=by simp [eT]
 rw [e2] at g14
 obtain ⟨q1,q2,q3⟩:=oV (eY a) (eY b)
 have na:=(dV a).nm3
 have ra:=(dV a).rn3
 have nb:=(dV b).nm3
 have rb:=(dV b).rn3
 have nc:=(dv c).nm3
 have rc:=(dv c).rn3
 have g14' : (paA (.mk 5 c e v f n [a,b])).getD 14 .u = .sl (paA a++paA b) 2 .none:=g14
 clear g14 e2 hW
 generalize paA (.mk 5 c e v f n [a,b]) = AC at *
 generalize paA a++paA b = KS at *
 generalize paA a = A at *
 generalize paA b = B at *
 generalize tkA a = TA at *
 generalize tkA b = TB at *
 generalize bR c = CC at *
 generalize tkC c = TC at *
 simp only [List.length_append,List.length_cons,List.length_nil] at hb
 refine aC [] Tryz.func37 rfl Tryz.ntmps37 (Nat.le_of_ble_eq_true rfl) (Nat.le_of_ble_eq_true rfl) fun w0 G0 B0 Pr hB0=>?_
 simp only [aJ,aB,List.cons_append,List.nil_append]
 repeat' (first|(with_reducible refine hY _ ?_;clear hY Y)|((with_reducible first|refine ar rfl (ay fun K' hK'=>aa ?_)|refine hK' _ (ab fun Y hY=>aa ?_)|refine ab fun Y hY=>aa ?_|refine ae tk0 bK (ab fun Y hY=>aa ?_)|refine aa ?_|refine dw ?_);(try clear hK' K');(try dsimp only [aop]);try simp only [go_sem,seval,bK,Tryz.results37,hM,one,len,g0,g14',q1,q2,q3,s1,na,ra,nb,rb,nc,rc])|(with_reducible first|refine ag ?_|refine aj ?_|refine am ?_|refine aF fun K hK=>?_|refine ax ?_|refine av ?_|refine aR ?_|refine ap ?_)|(with_reducible refine hK _ ?_;clear hK K)|((with_reducible refine ai ?_ ?_);(· decide))|(with_reducible refine br ?_ ?_;(· (try and_intros) <;> first|omega|assumption|(simp only [List.length_append,List.length_map,List.length_cons,List.length_nil] <;> omega)))|(with_reducible refine ac (ha _ _ ?_ ?_) ?_;(· ((try simp only [List.length_append,List.length_map,List.length_cons,List.length_nil,List.take_length]);omega));(· omega))|(with_reducible refine ac (hb' _ _ ?_ ?_) ?_;(· ((try simp only [List.length_append,List.length_map,List.length_cons,List.length_nil,List.take_length]);omega));(· omega))|(with_reducible refine ac (hc _ _ ?_ ?_) ?_;(· ((try simp only [List.length_append,List.length_map,List.length_cons,List.length_nil,List.take_length]);omega));(· omega))|(with_reducible refine ac (fq _ _ ?_ _ _ ?_ ?_) ?_;(· simp);(· ((try simp only [List.length_append,List.length_map,List.length_cons,List.length_nil,List.take_length]);omega));(· omega)))
 all_goals (simp <;> omega)
theorem Dh (hi : ItC) (k : Int) (c : PC) (e v : PE) (f : Wd) (n : Int) (ks : List PA) (hs : seA (.mk k c e v f n ks) = true) (hk :∀ a ∈ ks,WrA a) : WrA (.mk k c e v f n ks):=by
 rw [seA,Bool.and_eq_true] at hs
 obtain ⟨hs,_⟩:=hs
 unfold vO mN at hs
 by_cases k0 : k = 0
 ·subst k0;exact Db c e v f n ks
 rw [if_neg k0] at hs
 by_cases k1 : k = 1
 ·subst k1
  simp only [if_true,Bool.and_eq_true] at hs
  exact Dc c e v f n ks (mo hi c hs.2.1).2.2
 rw [if_neg k1] at hs
 by_cases k2 : k = 2
 ·subst k2
  simp only [if_true,Bool.and_eq_true,decide_eq_true_eq] at hs
  exact Dd hi c e v f n ks (jm hi e hs.2.2.1.1).1 (jq hs.2.2.1.2.2.1 hs.2.2.1.2.2.2)
 rw [if_neg k2] at hs
 by_cases k3 : k = 3
 ·subst k3
  simp only [if_true,Bool.and_eq_true,decide_eq_true_eq] at hs
  exact De hi c e v f n ks (jm hi e hs.2.2.1.1).1 (jm hi v hs.2.2.2).1 (jq hs.2.2.1.2.2.1 hs.2.2.1.2.2.2)
 rw [if_neg k3] at hs
 by_cases k4 : k = 4
 ·subst k4
  simp only [if_true,Bool.and_eq_true,decide_eq_true_eq] at hs
  obtain ⟨a,b,rfl⟩ : ∃ a b,ks = [a,b]:=by
   match ks,hs.1 with
  |[a,b],_=>exact ⟨a,b,rfl⟩
  exact Df c e v f n a b (hk a (by simp)) (hk b (by simp))
 rw [if_neg k4] at hs
 by_cases k5 : k = 5
 ·subst k5
  simp only [if_true,Bool.and_eq_true,decide_eq_true_eq] at hs
  obtain ⟨a,b,rfl⟩ : ∃ a b,ks = [a,b]:=by
   match ks,hs.1 with
  |[a,b],_=>exact ⟨a,b,rfl⟩
  exact Dg c e v f n a b (mo hi c hs.2.1).2.1 (hk a (by simp)) (hk b (by simp))
 ·rw [if_neg k5] at hs;cases hs
mutual
theorem pW (hi : ItC) :∀ e,seA e = true→WrA e
|.mk k c e v f n ks,hs=>by
  have hs2:=hs
  rw [seA,Bool.and_eq_true] at hs2
  exact Dh hi k c e v f n ks hs (sU hi ks hs2.2)
theorem sU (hi : ItC) :∀ l,lN l = true→∀ a ∈ l,WrA a
|[],_=>fun e he=>absurd he List.not_mem_nil
|e :: r,hs=>fun a ha=>by
  rw [lN,Bool.and_eq_true] at hs
  exact (List.mem_cons.1 ha).elim (fun q=>q ▸ pW hi e hs.1) (sU hi r hs.2 a)
end
end Go.Proofs.YtkjnkkmokojnpaaGreatDoor
namespace Go.Proofs.YtkjnkkmokojnpaaGreatDoor
set_option linter.unusedSimpArgs false
set_option linter.unusedVariables false
open Go.RowKit
theorem ow {l : List (List Wd)} {k : Nat} (h : k < l.length) : ew (l.take (k + 1)) = (if k = 0 then [] else ew (l.take k)++[[44]])++l[k]:=by
 rw [List.take_succ_eq_append_getElem h,sq]
 by_cases hk : k = 0
 ·subst hk;simp
 ·rw [if_neg hk,if_neg]
  intro e
  have:=congrArg List.length e
  rw [List.length_take,List.length_nil] at this
  omega
theorem ph (l : List (List Wd)) (k : Nat) : (ew (l.take k)).length≤(ew l).length:=by
 by_cases hk : k < l.length
 ·have h :∀ j,k≤j→j≤l.length→(ew (l.take k)).length≤(ew (l.take j)).length:=by
   intro j
   induction j with
  |zero =>
    intro h1 _
    have : k = 0:=by omega
    subst this;exact Nat.le_refl _
  |succ j ih =>
    intro h1 h2
    by_cases e : k = j + 1
    ·subst e;exact Nat.le_refl _
    ·have:=ih (by omega) (by omega)
     rw [ow (show j < l.length by omega)]
     split
     ·rename_i hj;subst hj;have : k = 0:=by omega
      subst this;exact Nat.zero_le _
     ·simp only [List.length_append];omega
  have:=h l.length (by omega) (Nat.le_refl _)
  rw [List.take_length] at this
  exact this
 ·rw [List.take_of_length_le (by omega)];exact Nat.le_refl _
abbrev zX : AV:=.fn (.func 36) [.loc 20000 0] []
abbrev sy : AV:=.fn (.func 92) [.loc 20000 0] []
def cS : Nat→List Nat
|0=>[0,1,2]
|1=>[0,2,8,9,10]
|2=>[0,2,8,9,10]
|3=>[0,2,6,7,8,9,10]
|4=>[0,2,7,8,9,10]
|5=>[0,2,7,8,9,10]
|6=>[0,2,8,9,10]
|_=>[]
set_option maxRecDepth 100000 in
set_option maxHeartbeats 4000000 in
theorem rK (l : List Wd) (hl : Lg l) : Wr 35 [.sl (l.map bs) l.length .none,zX] (ew (l.map fun x=>[x])):=fun M m hM hb=>by
 unfold Lg at hl
 refine aC [] Tryz.func35 rfl Tryz.ntmps35 (Nat.le_of_ble_eq_true rfl) (Nat.le_of_ble_eq_true rfl) fun w0 G0 B0 Pr hB0=>?_
 simp only [aJ,aB,List.cons_append,List.nil_append]
 repeat' (first|(with_reducible refine hY _ ?_;clear hY Y)|((with_reducible first|refine ar rfl (ay fun K' hK'=>aa ?_)|refine hK' _ (ab fun Y hY=>aa ?_)|refine ae tk0 cS (ab fun Y hY=>aa ?_));(try clear hK' K');(try dsimp only [aop]);try simp only [go_sem,seval,cS,Tryz.results35])|(with_reducible first|refine ag ?_|refine aj ?_|refine am ?_|refine aF fun K hK=>?_|refine ap ?_|refine bW ?_)|(with_reducible refine hK _ ?_;clear hK K))
 refine b9 (α:=Nat) (fun k=>[(0,.loc 20000 0),(2,zX),(8,.sl (l.map bs) l.length .none),(9,inA (l.length : Int)),(10,inA (k : Int)),
   (20000,.bc [.sl (M++(ew ((l.map fun x=>[x]).take k)).map bs) (m + (ew ((l.map fun x=>[x]).take k)).length) (.tok 20001)] 79),(20001,.bt (m + (ew ((l.map fun x=>[x]).take k)).length) 9)])
  (fun k=>k≤l.length) (fun k=>l.length - k) 0 [0,2,8,9,10] ?_ (Nat.zero_le _) ?_
 ·simp only [go_sem,seval];simp [ew]
 intro k hk ih
 by_cases hlt : k < l.length
 ·have hlt' : ((k : Int) < (l.length : Int)) = True:=eq_true (by omega)
  have hkw:=eB (n:=k) (by omega)
  have hg0:=lI (f:=bs) hlt
  have hfl : (l.map bs).length = l.length:=List.length_map ..
  have hst:=ow (l:=l.map fun x=>[x]) (k:=k) (by simpa using hlt)
  have hle:=ph (l.map fun x=>[x]) (k + 1)
  have hlM : (M++(ew ((l.map fun x=>[x]).take k)).map bs).length = m + (ew ((l.map fun x=>[x]).take k)).length:=by simp [hM]
  have ihk:=ih (k + 1) (by omega) (by omega)
  have hC0 : k = 0→ew ((l.map fun x=>[x]).take k) = []:=fun e=>by rw [e];rfl
  rw [hst] at ihk hle
  rw [List.getElem_map] at ihk hle
  clear ih hst
  generalize l[k] = t at *
  generalize ew ((l.map fun x=>[x]).take k) = C at *
  by_cases hk0 : k = 0
  ·have hk0' : ((0 : Int) < (k : Int)) = False:=eq_false (by omega)
   rw [if_pos hk0] at ihk hle
   obtain rfl:=hC0 hk0
   simp only [List.length_append,List.length_cons,List.length_nil] at hle hlM
   repeat' (first|(with_reducible refine hY _ ?_;clear hY Y)|((with_reducible first|refine ar rfl (ay fun K' hK'=>aa ?_)|refine hK' _ (ab fun Y hY=>aa ?_)|refine ab fun Y hY=>aa ?_|refine ae tk0 cS (ab fun Y hY=>aa ?_)|refine aa ?_);(try clear hK' K');(try dsimp only [aop]);try simp only [go_sem,seval,cS,Tryz.results35,hlt',hfl,hg0,hkw,hk0',hlM])|(with_reducible first|refine ag ?_|refine aj ?_|refine am ?_|refine aF fun K hK=>?_|refine ax ?_|refine av ?_|refine aR ?_|refine ap ?_|refine aD ?_)|(with_reducible refine hK _ ?_;clear hK K)|((with_reducible refine ai ?_ ?_);(· decide))|(with_reducible refine br ?_ ?_;(· (try and_intros) <;> first|omega|assumption|(simp only [List.length_append,List.length_map,List.length_cons,List.length_nil] <;> omega)))|(with_reducible refine ac (xC _ _ _ ?_ ?_) ?_;(· ((try simp only [List.length_append,List.length_map,List.length_cons,List.length_nil,List.take_length]);omega));(· ((try simp only [List.length_append,List.length_map,List.length_cons,List.length_nil,List.take_length]);omega))))
   refine bi [0,2,8,9,10] (by simp only [go_sem,seval];exact rfl) ?_
   exact dd ihk (by simp)
  ·have hk0' : ((0 : Int) < (k : Int)) = True:=eq_true (by omega)
   rw [if_neg hk0] at ihk hle
   simp only [List.length_append,List.length_cons,List.length_nil] at hle
   repeat' (first|(with_reducible refine hY _ ?_;clear hY Y)|((with_reducible first|refine ar rfl (ay fun K' hK'=>aa ?_)|refine hK' _ (ab fun Y hY=>aa ?_)|refine ab fun Y hY=>aa ?_|refine ae tk0 cS (ab fun Y hY=>aa ?_)|refine aa ?_);(try clear hK' K');(try dsimp only [aop]);try simp only [go_sem,seval,cS,Tryz.results35,hlt',hfl,hg0,hkw,hk0',hlM])|(with_reducible first|refine ag ?_|refine aj ?_|refine am ?_|refine aF fun K hK=>?_|refine ax ?_|refine aR ?_|refine ap ?_|refine aD ?_)|(with_reducible refine hK _ ?_;clear hK K)|((with_reducible refine ai ?_ ?_);(· decide))|(with_reducible refine br ?_ ?_;(· (try and_intros) <;> first|omega|assumption|(simp only [List.length_append,List.length_map,List.length_cons,List.length_nil] <;> omega)))|(with_reducible refine ac (xC _ _ _ ?_ ?_) ?_;(· ((try simp only [List.length_append,List.length_map,List.length_cons,List.length_nil,List.take_length]);omega));(· ((try simp only [List.length_append,List.length_map,List.length_cons,List.length_nil,List.take_length]);omega)))|(with_reducible refine ac (fq _ _ ?_ _ _ ?_ ?_) ?_;(· simp);(· ((try simp only [List.length_append,List.length_map,List.length_cons,List.length_nil,List.take_length]);omega));(· omega)))
   refine bi [0,2,8,9,10] (by simp only [go_sem,seval];exact rfl) ?_
   exact dd ihk (by simp [Nat.add_assoc] <;> omega)
 ·have hlt' : ((k : Int) < (l.length : Int)) = False:=eq_false (by omega)
  rw [List.take_of_length_le (by simp;omega)]
  clear ih
  repeat' (first|(with_reducible refine hY _ ?_;clear hY Y)|((with_reducible first|refine ar rfl (ay fun K' hK'=>aa ?_)|refine hK' _ (ab fun Y hY=>aa ?_)|refine ab fun Y hY=>aa ?_|refine ae tk0 cS (ab fun Y hY=>aa ?_)|refine aa ?_|refine dw ?_);(try clear hK' K');(try dsimp only [aop]);try simp only [go_sem,seval,cS,Tryz.results35,hlt'])|(with_reducible first|refine ag ?_|refine aj ?_|refine am ?_|refine aF fun K hK=>?_|refine av ?_|refine cf ?_|refine bI ?_|refine bH ?_)|(with_reducible refine hK _ ?_;clear hK K)|((with_reducible refine ai ?_ ?_);(· decide)))
def bX : Nat→List Nat
|0=>[0,1,2]
|1=>[0,2,8,9,10]
|2=>[0,2,8,9,10]
|3=>[0,2,6,7,8,9,10]
|4=>[0,2,7,8,9,10]
|5=>[0,2,7,8,9,10]
|6=>[0,2,8,9,10]
|_=>[]
set_option maxRecDepth 100000 in
set_option maxHeartbeats 4000000 in
theorem vC (l : List PE) (hl : Lg l) (hc :∀ a ∈ l,WrE a) : Wr 172 [.sl (bY l) l.length .none,sy] (ew (l.map tkE)):=fun M m hM hb=>by
 unfold Lg at hl
 refine aC [] Tryz.func172 rfl Tryz.ntmps172 (Nat.le_of_ble_eq_true rfl) (Nat.le_of_ble_eq_true rfl) fun w0 G0 B0 Pr hB0=>?_
 simp only [aJ,aB,List.cons_append,List.nil_append]
 repeat' (first|(with_reducible refine hY _ ?_;clear hY Y)|((with_reducible first|refine ar rfl (ay fun K' hK'=>aa ?_)|refine hK' _ (ab fun Y hY=>aa ?_)|refine ae tk0 bX (ab fun Y hY=>aa ?_));(try clear hK' K');(try dsimp only [aop]);try simp only [go_sem,seval,bX,Tryz.results172])|(with_reducible first|refine ag ?_|refine aj ?_|refine am ?_|refine aF fun K hK=>?_|refine ap ?_|refine bW ?_)|(with_reducible refine hK _ ?_;clear hK K))
 refine b9 (α:=Nat) (fun k=>[(0,.loc 20000 0),(2,sy),(8,.sl (bY l) l.length .none),(9,inA (l.length : Int)),(10,inA (k : Int)),
   (20000,.bc [.sl (M++(ew ((l.map tkE).take k)).map bs) (m + (ew ((l.map tkE).take k)).length) (.tok 20001)] 79),(20001,.bt (m + (ew ((l.map tkE).take k)).length) 9)])
  (fun k=>k≤l.length) (fun k=>l.length - k) 0 [0,2,8,9,10] ?_ (Nat.zero_le _) ?_
 ·simp only [go_sem,seval];simp [ew]
 intro k hk ih
 by_cases hlt : k < l.length
 ·have hlt' : ((k : Int) < (l.length : Int)) = True:=eq_true (by omega)
  have hkw:=eB (n:=k) (by omega)
  have hg0:=kQ hlt
  have hfl:=iK l
  have hst:=ow (l:=l.map tkE) (k:=k) (by simpa using hlt)
  have hle:=ph (l.map tkE) (k + 1)
  have hlM : (M++(ew ((l.map tkE).take k)).map bs).length = m + (ew ((l.map tkE).take k)).length:=by simp [hM]
  have ihk:=ih (k + 1) (by omega) (by omega)
  have hC0 : k = 0→ew ((l.map tkE).take k) = []:=fun e=>by rw [e];rfl
  have c1:=hc l[k] (List.getElem_mem hlt)
  unfold WrE at c1
  rw [hst] at ihk hle
  rw [List.getElem_map] at ihk hle
  have nE':=(cQ l[k]).nm3
  have rE':=(cQ l[k]).rn3
  have pE':=(u1 l[k]).1
  have lE':=eZ l[k]
  have tE' : (peA l[k]).take 4 = peA l[k]:=List.take_of_length_le (by omega)
  clear ih hst hc
  generalize l[k] = t at *
  generalize peA t = TC at *
  generalize tkE t = TT at *
  generalize ew ((l.map tkE).take k) = C at *
  by_cases hk0 : k = 0
  ·have hk0' : ((0 : Int) < (k : Int)) = False:=eq_false (by omega)
   rw [if_pos hk0] at ihk hle
   obtain rfl:=hC0 hk0
   simp only [List.length_append,List.length_cons,List.length_nil,List.nil_append] at hle hlM
   repeat' (first|(with_reducible refine hY _ ?_;clear hY Y)|((with_reducible first|refine ar rfl (ay fun K' hK'=>aa ?_)|refine hK' _ (ab fun Y hY=>aa ?_)|refine ab fun Y hY=>aa ?_|refine ae tk0 bX (ab fun Y hY=>aa ?_)|refine aa ?_);(try clear hK' K');(try dsimp only [aop]);try simp only [go_sem,seval,bX,Tryz.results172,hlt',hfl,hg0,hkw,hk0',hlM,nE',rE',pE',lE',tE'])|(with_reducible first|refine ag ?_|refine aj ?_|refine am ?_|refine aF fun K hK=>?_|refine ax ?_|refine av ?_|refine aR ?_|refine ap ?_|refine aD ?_)|(with_reducible refine hK _ ?_;clear hK K)|((with_reducible refine ai ?_ ?_);(· decide))|(with_reducible refine br ?_ ?_;(· (try and_intros) <;> first|omega|assumption|(simp only [List.length_append,List.length_map,List.length_cons,List.length_nil] <;> omega)))|(with_reducible refine ac (c1 _ _ ?_ ?_) ?_;(· ((try simp only [List.length_append,List.length_map,List.length_cons,List.length_nil,List.take_length]);omega));(· ((try simp only [List.length_append,List.length_map,List.length_cons,List.length_nil,List.take_length]);omega))))
   refine bi [0,2,8,9,10] (by simp only [go_sem,seval];exact rfl) ?_
   exact dd ihk (by simp)
  ·have hk0' : ((0 : Int) < (k : Int)) = True:=eq_true (by omega)
   rw [if_neg hk0] at ihk hle
   simp only [List.length_append,List.length_cons,List.length_nil] at hle
   repeat' (first|(with_reducible refine hY _ ?_;clear hY Y)|((with_reducible first|refine ar rfl (ay fun K' hK'=>aa ?_)|refine hK' _ (ab fun Y hY=>aa ?_)|refine ab fun Y hY=>aa ?_|refine ae tk0 bX (ab fun Y hY=>aa ?_)|refine aa ?_);(try clear hK' K');(try dsimp only [aop]);try simp only [go_sem,seval,bX,Tryz.results172,hlt',hfl,hg0,hkw,hk0',hlM,nE',rE',pE',lE',tE'])|(with_reducible first|refine ag ?_|refine aj ?_|refine am ?_|refine aF fun K hK=>?_|refine ax ?_|refine aR ?_|refine ap ?_|refine aD ?_)|(with_reducible refine hK _ ?_;clear hK K)|((with_reducible refine ai ?_ ?_);(· decide))|(with_reducible refine br ?_ ?_;(· (try and_intros) <;> first|omega|assumption|(simp only [List.length_append,List.length_map,List.length_cons,List.length_nil] <;> omega)))|(with_reducible refine ac (c1 _ _ ?_ ?_) ?_;(· ((try simp only [List.length_append,List.length_map,List.length_cons,List.length_nil,List.take_length]);omega));(· ((try simp only [List.length_append,List.length_map,List.length_cons,List.length_nil,List.take_length]);omega)))|(with_reducible refine ac (fq _ _ ?_ _ _ ?_ ?_) ?_;(· simp);(· ((try simp only [List.length_append,List.length_map,List.length_cons,List.length_nil,List.take_length]);omega));(· omega)))
   refine bi [0,2,8,9,10] (by simp only [go_sem,seval];exact rfl) ?_
   exact dd ihk (by simp [Nat.add_assoc] <;> omega)
 ·have hlt' : ((k : Int) < (l.length : Int)) = False:=eq_false (by omega)
  rw [List.take_of_length_le (by simp;omega)]
  clear ih hc
  repeat' (first|(with_reducible refine hY _ ?_;clear hY Y)|((with_reducible first|refine ar rfl (ay fun K' hK'=>aa ?_)|refine hK' _ (ab fun Y hY=>aa ?_)|refine ab fun Y hY=>aa ?_|refine ae tk0 bX (ab fun Y hY=>aa ?_)|refine aa ?_|refine dw ?_);(try clear hK' K');(try dsimp only [aop]);try simp only [go_sem,seval,bX,Tryz.results172,hlt'])|(with_reducible first|refine ag ?_|refine aj ?_|refine am ?_|refine aF fun K hK=>?_|refine av ?_|refine cf ?_|refine bI ?_|refine bH ?_)|(with_reducible refine hK _ ?_;clear hK K)|((with_reducible refine ai ?_ ?_);(· decide)))
abbrev WrS (a : PS') : Prop:=Wr 95 [.agg (psA a)] (tkS a)
theorem vA (a b : List PS') : eE (a++b) = eE a++eE b:=by
 induction a with
|nil=>rfl
|cons x r ih=>rw [List.cons_append,eE,eE,ih,List.append_assoc]
theorem yE {l : List PS'} {k : Nat} (h : k < l.length) : eE (l.take (k + 1)) = eE (l.take k)++tkS l[k]:=by
 rw [List.take_succ_eq_append_getElem h,vA]
 simp [eE]
theorem xy (l : List PS') (k : Nat) : (eE (l.take k)).length≤(eE l).length:=by
 have h : eE l = eE (l.take k)++eE (l.drop k):=by rw [← vA,List.take_append_drop]
 rw [h,List.length_append];omega
def dt : Nat→List Nat
|0=>[0,1]
|1=>[0,1]
|2=>[0,9,10,11]
|3=>[0,9,10,11]
|4=>[0,5,9,10,11]
|5=>[0,9,10,11]
|6=>[0]
|_=>[]
set_option maxRecDepth 100000 in
set_option maxHeartbeats 4000000 in
theorem oW (l : List PS') (hl : Lg l) (hc :∀ a ∈ l,WrS a) : Wr 38 [.sl (dU l) l.length .none] (tkB l):=fun M m hM hb=>by
 unfold Lg at hl
 unfold tkB at hb ⊢
 simp only [List.length_append,List.length_cons,List.length_nil] at hb
 refine aC [] Tryz.func38 rfl Tryz.ntmps38 (Nat.le_of_ble_eq_true rfl) (Nat.le_of_ble_eq_true rfl) fun w0 G0 B0 Pr hB0=>?_
 simp only [aJ,aB,List.cons_append,List.nil_append]
 repeat' (first|(with_reducible refine hY _ ?_;clear hY Y)|((with_reducible first|refine ar rfl (ay fun K' hK'=>aa ?_)|refine hK' _ (ab fun Y hY=>aa ?_)|refine ae tk0 dt (ab fun Y hY=>aa ?_)|refine aa ?_);(try clear hK' K');(try dsimp only [aop]);try simp only [go_sem,seval,dt,Tryz.results38,hM])|(with_reducible first|refine ag ?_|refine aj ?_|refine am ?_|refine aF fun K hK=>?_|refine ap ?_|refine bW ?_)|(with_reducible refine hK _ ?_;clear hK K)|(with_reducible refine ac (fq _ _ ?_ _ _ ?_ ?_) ?_;(· simp);(· ((try simp only [List.length_append,List.length_map,List.length_cons,List.length_nil,List.take_length]);omega));(· omega)))
 refine b9 (α:=Nat) (fun k=>[(0,.loc 20000 0),(9,.sl (dU l) l.length .none),(10,inA (l.length : Int)),(11,inA (k : Int)),
   (20000,.bc [.sl (M++([[123]]++eE (l.take k)).map bs) (m + ([[123]]++eE (l.take k)).length) (.tok 20001)] 79),(20001,.bt (m + ([[123]]++eE (l.take k)).length) 9)])
  (fun k=>k≤l.length) (fun k=>l.length - k) 0 [0,9,10,11] ?_ (Nat.zero_le _) ?_
 ·simp only [go_sem,seval];simp [eE]
 intro k hk ih
 have hlM : (M++([[123]]++eE (l.take k)).map bs).length = m + ([[123]]++eE (l.take k)).length:=by simp [hM]
 have hle:=xy l k
 by_cases hlt : k < l.length
 ·have hlt' : ((k : Int) < (l.length : Int)) = True:=eq_true (by omega)
  have hkw:=eB (n:=k) (by omega)
  have hg0:=kS hlt
  have hfl:=jk l
  have hst:=yE hlt
  have hle2:=xy l (k + 1)
  have ihk:=ih (k + 1) (by omega) (by omega)
  have c1:=hc l[k] (List.getElem_mem hlt)
  unfold WrS at c1
  rw [hst] at ihk hle2
  have nS':=(sJ l[k]).nm3
  have rS':=(sJ l[k]).rn3
  have pS':=(An l[k]).1
  have lS':=kR l[k]
  have tS' : (psA l[k]).take 35 = psA l[k]:=List.take_of_length_le (by omega)
  clear ih hst hc
  generalize l[k] = t at *
  generalize psA t = TC at *
  generalize tkS t = TT at *
  rw [List.length_append] at hle2
  have hlC : ([[123]]++eE (l.take k)).length = 1 + (eE (l.take k)).length:=by simp;omega
  have hcat : [[123]]++(eE (l.take k)++TT) = ([[123]]++eE (l.take k))++TT:=by simp
  rw [hcat] at ihk
  generalize [[123]]++eE (l.take k) = C at *
  generalize eE (l.take k) = C2 at *
  repeat' (first|(with_reducible refine hY _ ?_;clear hY Y)|((with_reducible first|refine ar rfl (ay fun K' hK'=>aa ?_)|refine hK' _ (ab fun Y hY=>aa ?_)|refine ab fun Y hY=>aa ?_|refine ae tk0 dt (ab fun Y hY=>aa ?_)|refine aa ?_);(try clear hK' K');(try dsimp only [aop]);try simp only [go_sem,seval,dt,Tryz.results38,hlt',hfl,hg0,hkw,hlM,nS',rS',pS',lS',tS'])|(with_reducible first|refine ag ?_|refine aj ?_|refine am ?_|refine aF fun K hK=>?_|refine ax ?_|refine aR ?_|refine ap ?_|refine aD ?_)|(with_reducible refine hK _ ?_;clear hK K)|((with_reducible refine ai ?_ ?_);(· decide))|(with_reducible refine br ?_ ?_;(· (try and_intros) <;> first|omega|assumption|(simp only [List.length_append,List.length_map,List.length_cons,List.length_nil] <;> omega)))|(with_reducible refine ac (c1 _ _ ?_ ?_) ?_;(· ((try simp only [List.length_append,List.length_map,List.length_cons,List.length_nil,List.take_length]);omega));(· ((try simp only [List.length_append,List.length_map,List.length_cons,List.length_nil,List.take_length]);omega))))
  refine bi [0,9,10,11] (by simp only [go_sem,seval];exact rfl) ?_
  exact dd ihk (by simp [Nat.add_assoc] <;> omega)
 ·have hlt' : ((k : Int) < (l.length : Int)) = False:=eq_false (by omega)
  rw [List.take_of_length_le (by omega)] at hlM hle ⊢
  clear ih hc
  have hlC : ([[123]]++eE l).length = 1 + (eE l).length:=by simp;omega
  obtain ⟨C,hC⟩ : ∃ C,C = [[123]]++eE l:=⟨_,rfl⟩
  rw [← hC] at hlM hlC ⊢
  repeat' (first|(with_reducible refine hY _ ?_;clear hY Y)|((with_reducible first|refine ar rfl (ay fun K' hK'=>aa ?_)|refine hK' _ (ab fun Y hY=>aa ?_)|refine ab fun Y hY=>aa ?_|refine ae tk0 dt (ab fun Y hY=>aa ?_)|refine aa ?_|refine dw ?_);(try clear hK' K');(try dsimp only [aop]);try simp only [go_sem,seval,dt,Tryz.results38,hlt',hlM])|(with_reducible first|refine ag ?_|refine aj ?_|refine am ?_|refine aF fun K hK=>?_|refine av ?_|refine cf ?_|refine bI ?_|refine bH ?_)|(with_reducible refine hK _ ?_;clear hK K)|((with_reducible refine ai ?_ ?_);(· decide))|(with_reducible refine ac (fq _ _ ?_ _ _ ?_ ?_) ?_;(· simp);(· ((try simp only [List.length_append,List.length_map,List.length_cons,List.length_nil,List.take_length]);omega));(· omega)))
  all_goals (subst hC;simp [Nat.add_assoc] <;> omega)
end Go.Proofs.YtkjnkkmokojnpaaGreatDoor
