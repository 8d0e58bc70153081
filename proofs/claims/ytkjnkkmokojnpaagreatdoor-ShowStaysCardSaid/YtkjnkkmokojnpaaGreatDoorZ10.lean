/- show's writer in K: words, numbers, expressions. show's writer in K: conditions, assertions. -/
import Derived.Test.YtkjnkkmokojnpaaGreatDoorZ7
import Derived.Test.YtkjnkkmokojnpaaGreatDoorZ9
namespace Go.Proofs.YtkjnkkmokojnpaaGreatDoor
set_option linter.unusedSimpArgs false
set_option linter.unusedVariables false
open Go.RowKit
abbrev wrB (M : List AV) (m : Nat) : List AV:=[.bc [.sl M m (.tok 20001)] 79,.bt m 9]
abbrev Wr (f : Nat) (args : List AV) (W : List Wd) : Prop:=∀ (M : List AV) (m : Nat),M.length = m→m + W.length≤1000000000000→AFn Tryz.prog f (.loc 20000 0 :: args) (wrB M m) (.tup []) (wrB (M++W.map bs) (m + W.length))
abbrev ItC : Prop:=∀ n : Nat,n≤1073741824→AFn Tryz.prog 171 [inA (n : Int)] [] (bs (dec n)) []
def gF : Nat→List Nat
|0=>[0,1]
|_=>[]
set_option maxRecDepth 100000 in
theorem fq (N : List AV) (n : Nat) (hN : N.length = n) (M : List AV) (m : Nat) (hM : M.length = m) (hb : m + n≤1000000000000) : AFn Tryz.prog 34 [.loc 20000 0,.sl N n .full] (wrB M m) (.tup []) (wrB (M++N) (m + n)):=by
 refine aC [] Tryz.func34 rfl Tryz.ntmps34 (Nat.le_of_ble_eq_true rfl) (Nat.le_of_ble_eq_true rfl) fun w0 G0 B0 Pr hB0=>?_
 simp only [aJ,aB,List.cons_append,List.nil_append]
 repeat' (first|(with_reducible refine hY _ ?_;clear hY Y)|((with_reducible first|refine ar rfl (ay fun K' hK'=>aa ?_)|refine hK' _ (ab fun Y hY=>aa ?_)|refine ae tk0 gF (ab fun Y hY=>aa ?_)|refine aa ?_|refine dw ?_);(try clear hK' K');(try dsimp only [aop]);try simp only [go_sem,seval,gF,Tryz.results34,hM,hN])|(with_reducible first|refine ag ?_|refine aF fun K hK=>?_)|(with_reducible refine hK _ ?_;clear hK K)|(with_reducible refine br ?_ ?_;(· (try and_intros) <;> first|omega|assumption|(simp only [List.length_append,List.length_map,List.length_cons,List.length_nil] <;> omega))))
def gy : Nat→List Nat
|0=>[0,1]
|_=>[]
set_option maxRecDepth 100000 in
theorem xC (x : Wd) : Wr 36 [bs x] [x]:=fun M m hM hb=>by
 simp only [List.length_singleton] at hb
 refine aC [] Tryz.func36 rfl Tryz.ntmps36 (Nat.le_of_ble_eq_true rfl) (Nat.le_of_ble_eq_true rfl) fun w0 G0 B0 Pr hB0=>?_
 simp only [aJ,aB,List.cons_append,List.nil_append]
 repeat' (first|(with_reducible refine hY _ ?_;clear hY Y)|((with_reducible first|refine ar rfl (ay fun K' hK'=>aa ?_)|refine hK' _ (ab fun Y hY=>aa ?_)|refine ae tk0 gy (ab fun Y hY=>aa ?_)|refine aa ?_|refine dw ?_);(try clear hK' K');(try dsimp only [aop]);try simp only [go_sem,seval,gy,Tryz.results36,hM])|(with_reducible first|refine ag ?_|refine aF fun K hK=>?_)|(with_reducible refine hK _ ?_;clear hK K)|(with_reducible refine ac (fq _ _ ?_ _ _ ?_ ?_) ?_;(· simp);(· assumption);(· omega)))
def d9 : Nat→List Nat
|0=>[0,1]
|1=>[0,1]
|2=>[0,1]
|3=>[0,1]
|_=>[]
set_option maxRecDepth 100000 in
set_option maxHeartbeats 4000000 in
theorem md (hi : ItC) {n : Int} (h : gK n = true) : Wr 93 [inA n] (fR n):=fun M m hM hb=>by
 unfold gK at h
 simp only [Bool.and_eq_true,decide_eq_true_eq] at h
 by_cases hn : n < 0
 ·have h1:=hi (-n).toNat (by omega)
  have e : fR n = [[45],dec (-n).toNat]:=by unfold fR;rw [if_pos hn]
  rw [e] at hb ⊢
  simp only [List.length_cons,List.length_nil] at hb
  have h0 : (n < 0) = True:=eq_true hn
  have hw : IntKind.i64.wrap (0 - n) = (((-n).toNat : Nat) : Int):=by rw [bZ (by omega) (by omega)];omega
  generalize (-n).toNat = k at *
  generalize dec k = D at *
  clear e
  refine aC [] Tryz.func93 rfl Tryz.ntmps93 (Nat.le_of_ble_eq_true rfl) (Nat.le_of_ble_eq_true rfl) fun w0 G0 B0 Pr hB0=>?_
  simp only [aJ,aB,List.cons_append,List.nil_append]
  repeat' (first|(with_reducible refine hY _ ?_;clear hY Y)|((with_reducible first|refine ar rfl (ay fun K' hK'=>aa ?_)|refine hK' _ (ab fun Y hY=>aa ?_)|refine ab fun Y hY=>aa ?_|refine ae tk0 d9 (ab fun Y hY=>aa ?_)|refine aa ?_|refine dw ?_);(try clear hK' K');(try dsimp only [aop]);try simp only [go_sem,seval,d9,Tryz.results93,h0,hw,hM])|(with_reducible first|refine ag ?_|refine aj ?_|refine am ?_|refine aF fun K hK=>?_|refine ax ?_)|(with_reducible refine hK _ ?_;clear hK K)|((with_reducible refine ai ?_ ?_);(· decide))|(with_reducible refine ac (h1) ?_)|(with_reducible refine ac (fq _ _ ?_ _ _ ?_ ?_) ?_;(· simp);(· ((try simp only [List.length_append,List.length_map,List.length_cons,List.length_nil,List.take_length]);omega));(· omega)))
  all_goals (simp)
 ·have h1:=hi n.toNat (by omega)
  have e : fR n = [dec n.toNat]:=by unfold fR;rw [if_neg hn]
  rw [e] at hb ⊢
  rw [show ((n.toNat : Nat) : Int) = n by omega] at h1
  simp only [List.length_cons,List.length_nil] at hb
  have h0 : (n < 0) = False:=eq_false hn
  generalize dec n.toNat = D at *
  clear e
  refine aC [] Tryz.func93 rfl Tryz.ntmps93 (Nat.le_of_ble_eq_true rfl) (Nat.le_of_ble_eq_true rfl) fun w0 G0 B0 Pr hB0=>?_
  simp only [aJ,aB,List.cons_append,List.nil_append]
  repeat' (first|(with_reducible refine hY _ ?_;clear hY Y)|((with_reducible first|refine ar rfl (ay fun K' hK'=>aa ?_)|refine hK' _ (ab fun Y hY=>aa ?_)|refine ab fun Y hY=>aa ?_|refine ae tk0 d9 (ab fun Y hY=>aa ?_)|refine aa ?_|refine dw ?_);(try clear hK' K');(try dsimp only [aop]);try simp only [go_sem,seval,d9,Tryz.results93,h0,hM])|(with_reducible first|refine ag ?_|refine aj ?_|refine am ?_|refine aF fun K hK=>?_|refine av ?_|refine aD ?_)|(with_reducible refine hK _ ?_;clear hK K)|((with_reducible refine ai ?_ ?_);(· decide))|(with_reducible refine ac (h1) ?_)|(with_reducible refine ac (fq _ _ ?_ _ _ ?_ ?_) ?_;(· simp);(· ((try simp only [List.length_append,List.length_map,List.length_cons,List.length_nil,List.take_length]);omega));(· omega)))
def dj : Nat→List Nat
|0=>[0,1]
|1=>[0,3]
|2=>[0,3]
|3=>[0,3]
|4=>[0]
|5=>[0,3]
|_=>[]
abbrev WrE (e : PE) : Prop:=Wr 92 [.agg (peA e)] (tkE e)
abbrev WrI (e : PE) : Prop:=Wr 170 [.agg (peA e)] (jg e)
set_option maxRecDepth 100000 in
set_option maxHeartbeats 4000000 in
theorem wA (e : PE) (h : WrE e) : WrI e:=fun M m hM hb=>by
 unfold WrE at h
 by_cases hk : e.kind = 2∨e.kind = 3
 ·have hW : jg e = [[40]]++tkE e++[[41]]:=by unfold jg inT;rw [if_pos hk]
  rw [hW] at hb ⊢
  obtain ⟨k,n,x,ks⟩:=e
  simp only [PE.kind] at hk
  generalize tkE (.mk k n x ks) = T at *
  simp only [peA] at h ⊢
  generalize bY ks = KS at *
  simp only [List.length_append,List.length_cons,List.length_nil] at hb
  rcases hk with rfl|rfl
  ·refine aC [] Tryz.func170 rfl Tryz.ntmps170 (Nat.le_of_ble_eq_true rfl) (Nat.le_of_ble_eq_true rfl) fun w0 G0 B0 Pr hB0=>?_
   simp only [aJ,aB,List.cons_append,List.nil_append]
   repeat' (first|(with_reducible refine hY _ ?_;clear hY Y)|((with_reducible first|refine ar rfl (ay fun K' hK'=>aa ?_)|refine hK' _ (ab fun Y hY=>aa ?_)|refine ba rfl (ab fun Y hY=>aa ?_)|refine ab fun Y hY=>aa ?_|refine ae tk0 dj (ab fun Y hY=>aa ?_)|refine aa ?_|refine aq ?_);(try clear hK' K');(try dsimp only [aop]);try simp only [go_sem,seval,dj,Tryz.results170,hM])|(with_reducible first|refine ag ?_|refine aW rfl ?_|refine dc ?_ ?_|refine aj ?_|refine am ?_|refine aF fun K hK=>?_|refine ax ?_|refine aZ ?_|refine aA ?_)|(with_reducible refine hK _ ?_;clear hK K)|((with_reducible first|refine aI ?_ ?_|refine ai ?_ ?_);(· decide))|(with_reducible refine ac (h _ _ ?_ ?_) ?_;(· ((try simp only [List.length_append,List.length_map,List.length_cons,List.length_nil,List.take_length]);omega));(· omega))|(with_reducible refine ac (fq _ _ ?_ _ _ ?_ ?_) ?_;(· simp);(· ((try simp only [List.length_append,List.length_map,List.length_cons,List.length_nil,List.take_length]);omega));(· omega)))
   all_goals (simp <;> omega)
  ·refine aC [] Tryz.func170 rfl Tryz.ntmps170 (Nat.le_of_ble_eq_true rfl) (Nat.le_of_ble_eq_true rfl) fun w0 G0 B0 Pr hB0=>?_
   simp only [aJ,aB,List.cons_append,List.nil_append]
   repeat' (first|(with_reducible refine hY _ ?_;clear hY Y)|((with_reducible first|refine ar rfl (ay fun K' hK'=>aa ?_)|refine hK' _ (ab fun Y hY=>aa ?_)|refine ba rfl (ab fun Y hY=>aa ?_)|refine ab fun Y hY=>aa ?_|refine ay fun K' hK'=>aa ?_|refine ae tk0 dj (ab fun Y hY=>aa ?_)|refine aa ?_|refine aq ?_);(try clear hK' K');(try dsimp only [aop]);try simp only [go_sem,seval,dj,Tryz.results170,hM])|(with_reducible first|refine ag ?_|refine aK ?_|refine aj ?_|refine am ?_|refine aF fun K hK=>?_|refine ax ?_|refine aZ ?_|refine aA ?_)|(with_reducible refine hK _ ?_;clear hK K)|((with_reducible first|refine aI ?_ ?_|refine ai ?_ ?_);(· decide))|(with_reducible refine ac (h _ _ ?_ ?_) ?_;(· ((try simp only [List.length_append,List.length_map,List.length_cons,List.length_nil,List.take_length]);omega));(· omega))|(with_reducible refine ac (fq _ _ ?_ _ _ ?_ ?_) ?_;(· simp);(· ((try simp only [List.length_append,List.length_map,List.length_cons,List.length_nil,List.take_length]);omega));(· omega)))
   all_goals (simp <;> omega)
 ·have hW : jg e = tkE e:=by unfold jg inT;rw [if_neg hk]
  rw [hW] at hb ⊢
  obtain ⟨k,n,x,ks⟩:=e
  simp only [PE.kind] at hk
  have k2 : (k = 2) = False:=eq_false (by omega)
  have k3 : (k = 3) = False:=eq_false (by omega)
  generalize tkE (.mk k n x ks) = T at *
  simp only [peA] at h ⊢
  generalize bY ks = KS at *
  refine aC [] Tryz.func170 rfl Tryz.ntmps170 (Nat.le_of_ble_eq_true rfl) (Nat.le_of_ble_eq_true rfl) fun w0 G0 B0 Pr hB0=>?_
  simp only [aJ,aB,List.cons_append,List.nil_append]
  repeat' (first|(with_reducible refine hY _ ?_;clear hY Y)|((with_reducible first|refine ar rfl (ay fun K' hK'=>aa ?_)|refine hK' _ (ab fun Y hY=>aa ?_)|refine ba rfl (ab fun Y hY=>aa ?_)|refine ab fun Y hY=>aa ?_|refine ay fun K' hK'=>aa ?_|refine ae tk0 dj (ab fun Y hY=>aa ?_)|refine aa ?_|refine dw ?_);(try clear hK' K');(try dsimp only [aop]);try simp only [go_sem,seval,dj,Tryz.results170,hM,k2,k3])|(with_reducible first|refine ag ?_|refine aK ?_|refine aj ?_|refine am ?_|refine aF fun K hK=>?_|refine av ?_|refine aD ?_)|(with_reducible refine hK _ ?_;clear hK K)|((with_reducible first|refine aI ?_ ?_|refine ai ?_ ?_);(· decide))|(with_reducible refine ac (h _ _ ?_ ?_) ?_;(· ((try simp only [List.length_append,List.length_map,List.length_cons,List.length_nil,List.take_length]);omega));(· omega)))
theorem oV {A B : List AV} {n : Nat} (hA : A.length = n) (hB : B.length = n) : (A++B).take n = A∧((A++B).drop n).take n = B∧(A++B).length = n + n:=by
 subst hA
 refine ⟨by simp,by rw [List.drop_left];rw [← hB,List.take_length],by simp [hB]⟩
def zS : PE→List PE
|.mk _ _ _ ks=>ks
def cu : Nat→List Nat
|0=>[0,1]
|1=>[0,3]
|2=>[0,3]
|3=>[0,3]
|4=>[0,3]
|5=>[0,3,5]
|6=>[0,3]
|7=>[0,3,5]
|8=>[0,3]
|9=>[0,3,5]
|10=>[0,3]
|11=>[0,3]
|12=>[0,3]
|_=>[]
set_option maxRecDepth 100000 in
set_option maxHeartbeats 8000000 in
theorem Do (hi : ItC) (e : PE) (hs : seE e = true) (hk :∀ a ∈ zS e,WrE a∧WrI a) : WrE e:=fun M m hM hb=>by
 obtain ⟨k,n,x,ks⟩:=e
 rw [seE,Bool.and_eq_true] at hs
 obtain ⟨hs,_⟩:=hs
 unfold rU at hs
 simp only [zS] at hk
 by_cases k0 : k = 0
 ·subst k0
  simp only [if_true,Bool.and_eq_true] at hs
  have h1:=md hi hs.1
  have e1 : tkE (.mk 0 n x ks) = fR n:=by rw [tkE,if_pos rfl]
  rw [e1] at hb ⊢
  simp only [peA]
  generalize bY ks = KS at *
  generalize fR n = D at *
  refine aC [] Tryz.func92 rfl Tryz.ntmps92 (Nat.le_of_ble_eq_true rfl) (Nat.le_of_ble_eq_true rfl) fun w0 G0 B0 Pr hB0=>?_
  simp only [aJ,aB,List.cons_append,List.nil_append]
  repeat' (first|(with_reducible refine hY _ ?_;clear hY Y)|((with_reducible first|refine ar rfl (ay fun K' hK'=>aa ?_)|refine hK' _ (ab fun Y hY=>aa ?_)|refine ab fun Y hY=>aa ?_|refine ae tk0 cu (ab fun Y hY=>aa ?_)|refine aa ?_|refine dw ?_);(try clear hK' K');(try dsimp only [aop]);try simp only [go_sem,seval,cu,Tryz.results92,hM])|(with_reducible first|refine ag ?_|refine aj ?_|refine am ?_|refine aF fun K hK=>?_|refine ax ?_|refine aR ?_|refine ap ?_)|(with_reducible refine hK _ ?_;clear hK K)|((with_reducible refine ai ?_ ?_);(· decide))|(with_reducible refine ac (h1 _ _ ?_ ?_) ?_;(· ((try simp only [List.length_append,List.length_map,List.length_cons,List.length_nil,List.take_length]);omega));(· omega)))
 rw [if_neg k0] at hs
 by_cases k1 : k = 1
 ·subst k1
  have e1 : tkE (.mk 1 n x ks) = [x]:=by rw [tkE,if_neg (by decide),if_pos rfl]
  rw [e1] at hb ⊢
  simp only [List.length_cons,List.length_nil] at hb
  simp only [peA]
  generalize bY ks = KS at *
  refine aC [] Tryz.func92 rfl Tryz.ntmps92 (Nat.le_of_ble_eq_true rfl) (Nat.le_of_ble_eq_true rfl) fun w0 G0 B0 Pr hB0=>?_
  simp only [aJ,aB,List.cons_append,List.nil_append]
  repeat' (first|(with_reducible refine hY _ ?_;clear hY Y)|((with_reducible first|refine ar rfl (ay fun K' hK'=>aa ?_)|refine hK' _ (ab fun Y hY=>aa ?_)|refine ab fun Y hY=>aa ?_|refine ae tk0 cu (ab fun Y hY=>aa ?_)|refine aa ?_|refine dw ?_);(try clear hK' K');(try dsimp only [aop]);try simp only [go_sem,seval,cu,Tryz.results92,hM])|(with_reducible first|refine ag ?_|refine aj ?_|refine am ?_|refine aF fun K hK=>?_|refine ax ?_|refine av ?_|refine aR ?_|refine ap ?_)|(with_reducible refine hK _ ?_;clear hK K)|((with_reducible refine ai ?_ ?_);(· decide))|(with_reducible refine ac (fq _ _ ?_ _ _ ?_ ?_) ?_;(· simp);(· ((try simp only [List.length_append,List.length_map,List.length_cons,List.length_nil,List.take_length]);omega));(· omega)))
 rw [if_neg k1] at hs
 by_cases k23 : k = 2∨k = 3
 ·rw [if_pos k23] at hs
  simp only [Bool.and_eq_true,decide_eq_true_eq] at hs
  obtain ⟨a,b,rfl⟩ : ∃ a b,ks = [a,b]:=by
   match ks,hs.2.2 with
  |[a,b],_=>exact ⟨a,b,rfl⟩
  have ca:=(hk a (by simp)).1
  have cb:=(hk b (by simp)).2
  have e1 : tkE (.mk k n x [a,b]) = tkE a++[if k = 3 then [45] else [43]]++jg b:=by
   rw [tkE,jA,if_neg (by omega),if_neg (by omega),if_neg (by omega)];simp
  rw [e1] at hb ⊢
  unfold WrE at ca
  unfold WrI at cb
  have e2 : bY [a,b] = peA a++peA b:=by simp [bY]
  obtain ⟨q1,q2,q3⟩:=oV (eZ a) (eZ b)
  have na:=(cQ a).nm3
  have ra:=(cQ a).rn3
  have nb:=(cQ b).nm3
  have rb:=(cQ b).rn3
  simp only [peA,e2]
  generalize peA a++peA b = KS at *
  generalize peA a = A at *
  generalize peA b = B at *
  generalize tkE a = TA at *
  generalize jg b = TB at *
  clear hk e2 e1
  simp only [List.length_append,List.length_cons,List.length_nil] at hb
  have wz0 : IntKind.i64.wrap 0 = 0:=rfl
  have wz1 : IntKind.i64.wrap 1 = 1:=rfl
  rcases k23 with rfl|rfl
  ·rw [if_neg (by decide)]
   refine aC [] Tryz.func92 rfl Tryz.ntmps92 (Nat.le_of_ble_eq_true rfl) (Nat.le_of_ble_eq_true rfl) fun w0 G0 B0 Pr hB0=>?_
   simp only [aJ,aB,List.cons_append,List.nil_append]
   repeat' (first|(with_reducible refine hY _ ?_;clear hY Y)|((with_reducible first|refine ar rfl (ay fun K' hK'=>aa ?_)|refine hK' _ (ab fun Y hY=>aa ?_)|refine ab fun Y hY=>aa ?_|refine ae tk0 cu (ab fun Y hY=>aa ?_)|refine aa ?_|refine dw ?_);(try clear hK' K');(try dsimp only [aop]);try simp only [go_sem,seval,cu,Tryz.results92,wz0,hM,q1,q2,q3,na,ra,nb,rb])|(with_reducible first|refine ag ?_|refine aj ?_|refine am ?_|refine aF fun K hK=>?_|refine av ?_|refine aR ?_|refine ap ?_)|(with_reducible refine hK _ ?_;clear hK K)|((with_reducible refine ai ?_ ?_);(· decide))|(with_reducible refine br ?_ ?_;(· (try and_intros) <;> first|omega|assumption|(simp only [List.length_append,List.length_map,List.length_cons,List.length_nil] <;> omega)))|(with_reducible refine ac (ca _ _ ?_ ?_) ?_;(· ((try simp only [List.length_append,List.length_map,List.length_cons,List.length_nil,List.take_length]);omega));(· omega))|(with_reducible refine ac (cb _ _ ?_ ?_) ?_;(· ((try simp only [List.length_append,List.length_map,List.length_cons,List.length_nil,List.take_length]);omega));(· omega))|(with_reducible refine ac (fq _ _ ?_ _ _ ?_ ?_) ?_;(· simp);(· ((try simp only [List.length_append,List.length_map,List.length_cons,List.length_nil,List.take_length]);omega));(· omega)))
   all_goals (simp <;> omega)
  ·rw [if_pos rfl]
   refine aC [] Tryz.func92 rfl Tryz.ntmps92 (Nat.le_of_ble_eq_true rfl) (Nat.le_of_ble_eq_true rfl) fun w0 G0 B0 Pr hB0=>?_
   simp only [aJ,aB,List.cons_append,List.nil_append]
   repeat' (first|(with_reducible refine hY _ ?_;clear hY Y)|((with_reducible first|refine ar rfl (ay fun K' hK'=>aa ?_)|refine hK' _ (ab fun Y hY=>aa ?_)|refine ab fun Y hY=>aa ?_|refine ae tk0 cu (ab fun Y hY=>aa ?_)|refine aa ?_|refine dw ?_);(try clear hK' K');(try dsimp only [aop]);try simp only [go_sem,seval,cu,Tryz.results92,wz1,hM,q1,q2,q3,na,ra,nb,rb])|(with_reducible first|refine ag ?_|refine aj ?_|refine am ?_|refine aF fun K hK=>?_|refine av ?_|refine aR ?_|refine ap ?_)|(with_reducible refine hK _ ?_;clear hK K)|((with_reducible refine ai ?_ ?_);(· decide))|(with_reducible refine br ?_ ?_;(· (try and_intros) <;> first|omega|assumption|(simp only [List.length_append,List.length_map,List.length_cons,List.length_nil] <;> omega)))|(with_reducible refine ac (ca _ _ ?_ ?_) ?_;(· ((try simp only [List.length_append,List.length_map,List.length_cons,List.length_nil,List.take_length]);omega));(· omega))|(with_reducible refine ac (cb _ _ ?_ ?_) ?_;(· ((try simp only [List.length_append,List.length_map,List.length_cons,List.length_nil,List.take_length]);omega));(· omega))|(with_reducible refine ac (fq _ _ ?_ _ _ ?_ ?_) ?_;(· simp);(· ((try simp only [List.length_append,List.length_map,List.length_cons,List.length_nil,List.take_length]);omega));(· omega)))
   all_goals (simp <;> omega)
 rw [if_neg k23] at hs
 by_cases k4 : k = 4
 ·subst k4
  simp only [if_true,Bool.and_eq_true,decide_eq_true_eq] at hs
  obtain ⟨a,rfl⟩ : ∃ a,ks = [a]:=by
   match ks,hs.2.2 with
  |[a],_=>exact ⟨a,rfl⟩
  have ca:=(hk a (by simp)).2
  have h1:=md hi hs.1
  have e1 : tkE (.mk 4 n x [a]) = fR n++[[42]]++jg a:=by rw [tkE,jA];simp
  rw [e1] at hb ⊢
  unfold WrI at ca
  have e2 : bY [a] = peA a:=by simp [bY]
  have na:=(cQ a).nm3
  have ra:=(cQ a).rn3
  have q1:=eZ a
  have q2 : (peA a).take 4 = peA a:=List.take_of_length_le (by omega)
  simp only [peA,e2]
  generalize peA a = A at *
  generalize jg a = TA at *
  generalize fR n = D at *
  clear hk e2 e1
  simp only [List.length_append,List.length_cons,List.length_nil] at hb
  refine aC [] Tryz.func92 rfl Tryz.ntmps92 (Nat.le_of_ble_eq_true rfl) (Nat.le_of_ble_eq_true rfl) fun w0 G0 B0 Pr hB0=>?_
  simp only [aJ,aB,List.cons_append,List.nil_append]
  repeat' (first|(with_reducible refine hY _ ?_;clear hY Y)|((with_reducible first|refine ar rfl (ay fun K' hK'=>aa ?_)|refine hK' _ (ab fun Y hY=>aa ?_)|refine ab fun Y hY=>aa ?_|refine ae tk0 cu (ab fun Y hY=>aa ?_)|refine aa ?_|refine dw ?_);(try clear hK' K');(try dsimp only [aop]);try simp only [go_sem,seval,cu,Tryz.results92,hM,q1,q2,na,ra])|(with_reducible first|refine ag ?_|refine aj ?_|refine am ?_|refine aF fun K hK=>?_|refine ax ?_|refine av ?_|refine aR ?_|refine ap ?_)|(with_reducible refine hK _ ?_;clear hK K)|((with_reducible refine ai ?_ ?_);(· decide))|(with_reducible refine br ?_ ?_;(· (try and_intros) <;> first|omega|assumption|(simp only [List.length_append,List.length_map,List.length_cons,List.length_nil] <;> omega)))|(with_reducible refine ac (h1 _ _ ?_ ?_) ?_;(· ((try simp only [List.length_append,List.length_map,List.length_cons,List.length_nil,List.take_length]);omega));(· omega))|(with_reducible refine ac (ca _ _ ?_ ?_) ?_;(· ((try simp only [List.length_append,List.length_map,List.length_cons,List.length_nil,List.take_length]);omega));(· omega))|(with_reducible refine ac (fq _ _ ?_ _ _ ?_ ?_) ?_;(· simp);(· ((try simp only [List.length_append,List.length_map,List.length_cons,List.length_nil,List.take_length]);omega));(· omega)))
  all_goals (simp <;> omega)
 ·rw [if_neg k4] at hs;cases hs
mutual
theorem jm (hi : ItC) :∀ e,seE e = true→WrE e∧WrI e
|.mk k n x ks,hs=>by
  have hs2 : gV ks = true:=by rw [seE,Bool.and_eq_true] at hs;exact hs.2
  have h4:=Do hi (.mk k n x ks) hs (kw hi ks hs2)
  exact ⟨h4,wA _ h4⟩
theorem kw (hi : ItC) :∀ l,gV l = true→∀ a ∈ l,WrE a∧WrI a
|[],_=>fun e he=>absurd he List.not_mem_nil
|e :: r,hs=>fun a ha=>by
  rw [gV,Bool.and_eq_true] at hs
  exact (List.mem_cons.1 ha).elim (fun q=>q ▸ jm hi e hs.1) (kw hi r hs.2 a)
end
end Go.Proofs.YtkjnkkmokojnpaaGreatDoor
namespace Go.Proofs.YtkjnkkmokojnpaaGreatDoor
set_option linter.unusedSimpArgs false
set_option linter.unusedVariables false
open Go.RowKit
abbrev jP (c : PC) : Prop:=Wr 94 [.agg (bR c)] (tkC c)
abbrev WrX (c : PC) : Prop:=∀ b,Wr 91 [.agg (bR c),.c (.bool b)] (fT b (tkC c))
def KL : Nat→List Nat
|0=>[0,1,2]
|1=>[0,2,4]
|2=>[0,4]
|3=>[0,4]
|4=>[0]
|5=>[0,4]
|_=>[]
set_option maxRecDepth 100000 in
set_option maxHeartbeats 4000000 in
theorem Dp (c : PC) (h : jP c) : WrX c:=fun b M m hM hb=>by
 unfold jP at h
 obtain ⟨k,e,ks⟩:=c
 generalize tkC (.mk k e ks) = T at *
 simp only [bR] at h ⊢
 generalize bY e = ES at *
 generalize db ks = KS at *
 cases b
 ·have e1 : fT false T = T:=rfl
  rw [e1] at hb ⊢
  refine aC [] Tryz.func91 rfl Tryz.ntmps91 (Nat.le_of_ble_eq_true rfl) (Nat.le_of_ble_eq_true rfl) fun w0 G0 B0 Pr hB0=>?_
  simp only [aJ,aB,List.cons_append,List.nil_append]
  repeat' (first|(with_reducible refine hY _ ?_;clear hY Y)|((with_reducible first|refine ar rfl (ay fun K' hK'=>aa ?_)|refine hK' _ (ab fun Y hY=>aa ?_)|refine ab fun Y hY=>aa ?_|refine ae tk0 KL (ab fun Y hY=>aa ?_)|refine aa ?_|refine dw ?_);(try clear hK' K');(try dsimp only [aop]);try simp only [go_sem,seval,KL,Tryz.results91,hM])|(with_reducible first|refine ag ?_|refine aj ?_|refine am ?_|refine aF fun K hK=>?_|refine av ?_|refine aD ?_)|(with_reducible refine hK _ ?_;clear hK K)|((with_reducible refine ai ?_ ?_);(· decide))|(with_reducible refine ac (h _ _ ?_ ?_) ?_;(· ((try simp only [List.length_append,List.length_map,List.length_cons,List.length_nil,List.take_length]);omega));(· omega)))
 ·have e1 : fT true T = [[91]]++T++[[93]]:=rfl
  rw [e1] at hb ⊢
  simp only [List.length_append,List.length_cons,List.length_nil] at hb
  refine aC [] Tryz.func91 rfl Tryz.ntmps91 (Nat.le_of_ble_eq_true rfl) (Nat.le_of_ble_eq_true rfl) fun w0 G0 B0 Pr hB0=>?_
  simp only [aJ,aB,List.cons_append,List.nil_append]
  repeat' (first|(with_reducible refine hY _ ?_;clear hY Y)|((with_reducible first|refine ar rfl (ay fun K' hK'=>aa ?_)|refine hK' _ (ab fun Y hY=>aa ?_)|refine ab fun Y hY=>aa ?_|refine ae tk0 KL (ab fun Y hY=>aa ?_)|refine aa ?_|refine aq ?_);(try clear hK' K');(try dsimp only [aop]);try simp only [go_sem,seval,KL,Tryz.results91,hM])|(with_reducible first|refine ag ?_|refine aj ?_|refine am ?_|refine aF fun K hK=>?_|refine ax ?_|refine aZ ?_|refine aA ?_)|(with_reducible refine hK _ ?_;clear hK K)|((with_reducible refine ai ?_ ?_);(· decide))|(with_reducible refine ac (h _ _ ?_ ?_) ?_;(· ((try simp only [List.length_append,List.length_map,List.length_cons,List.length_nil,List.take_length]);omega));(· omega))|(with_reducible refine ac (fq _ _ ?_ _ _ ?_ ?_) ?_;(· simp);(· ((try simp only [List.length_append,List.length_map,List.length_cons,List.length_nil,List.take_length]);omega));(· omega)))
  all_goals (simp <;> omega)
theorem coK {k : Int} {m n : Nat} (h : jC k m n = true) : 0≤k∧k≤8:=by
 unfold jC at h
 repeat' split at h
 all_goals first|omega|cases h
theorem zy {c : PC} (h : seC c = true) : decide ((7 : Int)≤c.kind) = hi7 c:=by
 obtain ⟨k,e,ks⟩:=c
 rw [seC,Bool.and_eq_true] at h
 have:=coK h.1
 show decide ((7 : Int)≤k) = (decide (k = 7) || decide (k = 8))
 by_cases h7 : k = 7
 ·subst h7;rfl
 by_cases h8 : k = 8
 ·subst h8;rfl
 ·rw [decide_eq_false (by omega),decide_eq_false h7,decide_eq_false h8];rfl
theorem rh :∀ (c : PC) (r : List AV) ,(bR c++r).getD 0 .u = inA c.kind
|.mk k e ks,r=>by simp [bR,PC.kind]
theorem sH (a b : PC) : (bR a++bR b).getD 3 .u = inA b.kind:=by
 obtain ⟨k,e,ks⟩:=a
 obtain ⟨k',e',ks'⟩:=b
 simp [bR,PC.kind]
def KK : Nat→List Nat
|0=>[0,1]
|1=>[0,3]
|2=>[0,3]
|3=>[0,3]
|4=>[0,3]
|5=>[0,3,5]
|6=>[0]
|7=>[0,3,5]
|8=>[0]
|9=>[0,3,5]
|10=>[0,3]
|11=>[0,3]
|12=>[0,3,5]
|13=>[0,3]
|14=>[0,3]
|15=>[0,3]
|16=>[0,3,5]
|17=>[0,3]
|18=>[0,3]
|19=>[0,3]
|_=>[]
set_option maxRecDepth 100000 in
set_option maxHeartbeats 8000000 in
theorem Dl (k : Int) (hk : k = 2∨k = 3∨k = 4∨k = 5) (a b : PE) (ha : WrE a) (hb' : WrE b) : jP (.mk k [a,b] []):=fun M m hM hb=>by
 have e1 : tkC (.mk k [a,b] []) = tkE a++[rR k]++tkE b:=by
  rw [tkC,jA]
  rw [if_neg (by omega),if_neg (by omega),if_neg (by omega),if_neg (by omega),if_neg (by omega)];simp
 rw [e1] at hb ⊢
 unfold WrE at ha hb'
 have e2 : bY [a,b] = peA a++peA b:=by simp [bY]
 obtain ⟨q1,q2,q3⟩:=oV (eZ a) (eZ b)
 have na:=(cQ a).nm3
 have ra:=(cQ a).rn3
 have nb:=(cQ b).nm3
 have rb:=(cQ b).rn3
 simp only [bR,e2,db]
 generalize peA a++peA b = KS at *
 generalize peA a = A at *
 generalize peA b = B at *
 generalize tkE a = TA at *
 generalize tkE b = TB at *
 clear e2 e1
 simp only [List.length_append,List.length_cons,List.length_nil] at hb
 have wz0 : IntKind.i64.wrap 0 = 0:=rfl
 have wz1 : IntKind.i64.wrap 1 = 1:=rfl
 have wz2 : IntKind.i64.wrap 2 = 2:=rfl
 have wz3 : IntKind.i64.wrap 3 = 3:=rfl
 rcases hk with rfl|rfl|rfl|rfl
 ·have : rR 2 = [61,61]:=rfl
  rw [this]
  refine aC [] Tryz.func94 rfl Tryz.ntmps94 (Nat.le_of_ble_eq_true rfl) (Nat.le_of_ble_eq_true rfl) fun w0 G0 B0 Pr hB0=>?_
  simp only [aJ,aB,List.cons_append,List.nil_append]
  repeat' (first|(with_reducible refine hY _ ?_;clear hY Y)|((with_reducible first|refine ar rfl (ay fun K' hK'=>aa ?_)|refine hK' _ (ab fun Y hY=>aa ?_)|refine ab fun Y hY=>aa ?_|refine ae tk0 KK (ab fun Y hY=>aa ?_)|refine aa ?_|refine dw ?_);(try clear hK' K');(try dsimp only [aop]);try simp only [go_sem,seval,KK,Tryz.results94,wz0,hM,na,ra,nb,rb,q1,q2,q3])|(with_reducible first|refine ag ?_|refine aj ?_|refine am ?_|refine aF fun K hK=>?_|refine av ?_|refine aR ?_|refine ap ?_)|(with_reducible refine hK _ ?_;clear hK K)|((with_reducible refine ai ?_ ?_);(· decide))|(with_reducible refine br ?_ ?_;(· (try and_intros) <;> first|omega|assumption|(simp only [List.length_append,List.length_map,List.length_cons,List.length_nil] <;> omega)))|(with_reducible refine ac (ha _ _ ?_ ?_) ?_;(· ((try simp only [List.length_append,List.length_map,List.length_cons,List.length_nil,List.take_length]);omega));(· omega))|(with_reducible refine ac (hb' _ _ ?_ ?_) ?_;(· ((try simp only [List.length_append,List.length_map,List.length_cons,List.length_nil,List.take_length]);omega));(· omega))|(with_reducible refine ac (fq _ _ ?_ _ _ ?_ ?_) ?_;(· simp);(· ((try simp only [List.length_append,List.length_map,List.length_cons,List.length_nil,List.take_length]);omega));(· omega)))
  all_goals (simp <;> omega)
 ·have : rR 3 = [33,61]:=rfl
  rw [this]
  refine aC [] Tryz.func94 rfl Tryz.ntmps94 (Nat.le_of_ble_eq_true rfl) (Nat.le_of_ble_eq_true rfl) fun w0 G0 B0 Pr hB0=>?_
  simp only [aJ,aB,List.cons_append,List.nil_append]
  repeat' (first|(with_reducible refine hY _ ?_;clear hY Y)|((with_reducible first|refine ar rfl (ay fun K' hK'=>aa ?_)|refine hK' _ (ab fun Y hY=>aa ?_)|refine ab fun Y hY=>aa ?_|refine ae tk0 KK (ab fun Y hY=>aa ?_)|refine aa ?_|refine dw ?_);(try clear hK' K');(try dsimp only [aop]);try simp only [go_sem,seval,KK,Tryz.results94,wz1,hM,na,ra,nb,rb,q1,q2,q3])|(with_reducible first|refine ag ?_|refine aj ?_|refine am ?_|refine aF fun K hK=>?_|refine av ?_|refine aR ?_|refine ap ?_)|(with_reducible refine hK _ ?_;clear hK K)|((with_reducible refine ai ?_ ?_);(· decide))|(with_reducible refine br ?_ ?_;(· (try and_intros) <;> first|omega|assumption|(simp only [List.length_append,List.length_map,List.length_cons,List.length_nil] <;> omega)))|(with_reducible refine ac (ha _ _ ?_ ?_) ?_;(· ((try simp only [List.length_append,List.length_map,List.length_cons,List.length_nil,List.take_length]);omega));(· omega))|(with_reducible refine ac (hb' _ _ ?_ ?_) ?_;(· ((try simp only [List.length_append,List.length_map,List.length_cons,List.length_nil,List.take_length]);omega));(· omega))|(with_reducible refine ac (fq _ _ ?_ _ _ ?_ ?_) ?_;(· simp);(· ((try simp only [List.length_append,List.length_map,List.length_cons,List.length_nil,List.take_length]);omega));(· omega)))
  all_goals (simp <;> omega)
 ·have : rR 4 = [60]:=rfl
  rw [this]
  refine aC [] Tryz.func94 rfl Tryz.ntmps94 (Nat.le_of_ble_eq_true rfl) (Nat.le_of_ble_eq_true rfl) fun w0 G0 B0 Pr hB0=>?_
  simp only [aJ,aB,List.cons_append,List.nil_append]
  repeat' (first|(with_reducible refine hY _ ?_;clear hY Y)|((with_reducible first|refine ar rfl (ay fun K' hK'=>aa ?_)|refine hK' _ (ab fun Y hY=>aa ?_)|refine ab fun Y hY=>aa ?_|refine ae tk0 KK (ab fun Y hY=>aa ?_)|refine aa ?_|refine dw ?_);(try clear hK' K');(try dsimp only [aop]);try simp only [go_sem,seval,KK,Tryz.results94,wz2,hM,na,ra,nb,rb,q1,q2,q3])|(with_reducible first|refine ag ?_|refine aj ?_|refine am ?_|refine aF fun K hK=>?_|refine av ?_|refine aR ?_|refine ap ?_)|(with_reducible refine hK _ ?_;clear hK K)|((with_reducible refine ai ?_ ?_);(· decide))|(with_reducible refine br ?_ ?_;(· (try and_intros) <;> first|omega|assumption|(simp only [List.length_append,List.length_map,List.length_cons,List.length_nil] <;> omega)))|(with_reducible refine ac (ha _ _ ?_ ?_) ?_;(· ((try simp only [List.length_append,List.length_map,List.length_cons,List.length_nil,List.take_length]);omega));(· omega))|(with_reducible refine ac (hb' _ _ ?_ ?_) ?_;(· ((try simp only [List.length_append,List.length_map,List.length_cons,List.length_nil,List.take_length]);omega));(· omega))|(with_reducible refine ac (fq _ _ ?_ _ _ ?_ ?_) ?_;(· simp);(· ((try simp only [List.length_append,List.length_map,List.length_cons,List.length_nil,List.take_length]);omega));(· omega)))
  all_goals (simp <;> omega)
 ·have : rR 5 = [60,61]:=rfl
  rw [this]
  refine aC [] Tryz.func94 rfl Tryz.ntmps94 (Nat.le_of_ble_eq_true rfl) (Nat.le_of_ble_eq_true rfl) fun w0 G0 B0 Pr hB0=>?_
  simp only [aJ,aB,List.cons_append,List.nil_append]
  repeat' (first|(with_reducible refine hY _ ?_;clear hY Y)|((with_reducible first|refine ar rfl (ay fun K' hK'=>aa ?_)|refine hK' _ (ab fun Y hY=>aa ?_)|refine ab fun Y hY=>aa ?_|refine ae tk0 KK (ab fun Y hY=>aa ?_)|refine aa ?_|refine dw ?_);(try clear hK' K');(try dsimp only [aop]);try simp only [go_sem,seval,KK,Tryz.results94,wz3,hM,na,ra,nb,rb,q1,q2,q3])|(with_reducible first|refine ag ?_|refine aj ?_|refine am ?_|refine aF fun K hK=>?_|refine av ?_|refine aR ?_|refine ap ?_)|(with_reducible refine hK _ ?_;clear hK K)|((with_reducible refine ai ?_ ?_);(· decide))|(with_reducible refine br ?_ ?_;(· (try and_intros) <;> first|omega|assumption|(simp only [List.length_append,List.length_map,List.length_cons,List.length_nil] <;> omega)))|(with_reducible refine ac (ha _ _ ?_ ?_) ?_;(· ((try simp only [List.length_append,List.length_map,List.length_cons,List.length_nil,List.take_length]);omega));(· omega))|(with_reducible refine ac (hb' _ _ ?_ ?_) ?_;(· ((try simp only [List.length_append,List.length_map,List.length_cons,List.length_nil,List.take_length]);omega));(· omega))|(with_reducible refine ac (fq _ _ ?_ _ _ ?_ ?_) ?_;(· simp);(· ((try simp only [List.length_append,List.length_map,List.length_cons,List.length_nil,List.take_length]);omega));(· omega)))
  all_goals (simp <;> omega)
set_option maxRecDepth 100000 in
set_option maxHeartbeats 8000000 in
theorem AT (k : Int) (hk : k = 0∨k = 1) : jP (.mk k [] []):=fun M m hM hb=>by
 simp only [bR,bY,db]
 rcases hk with rfl|rfl
 ·have : tkC (.mk 0 [] []) = [[116,114,117,101]]:=rfl
  rw [this] at hb ⊢
  simp only [List.length_append,List.length_cons,List.length_nil] at hb
  refine aC [] Tryz.func94 rfl Tryz.ntmps94 (Nat.le_of_ble_eq_true rfl) (Nat.le_of_ble_eq_true rfl) fun w0 G0 B0 Pr hB0=>?_
  simp only [aJ,aB,List.cons_append,List.nil_append]
  repeat' (first|(with_reducible refine hY _ ?_;clear hY Y)|((with_reducible first|refine ar rfl (ay fun K' hK'=>aa ?_)|refine hK' _ (ab fun Y hY=>aa ?_)|refine ab fun Y hY=>aa ?_|refine ae tk0 KK (ab fun Y hY=>aa ?_)|refine aa ?_|refine dw ?_);(try clear hK' K');(try dsimp only [aop]);try simp only [go_sem,seval,KK,Tryz.results94,hM])|(with_reducible first|refine ag ?_|refine aj ?_|refine am ?_|refine aF fun K hK=>?_|refine ax ?_|refine aR ?_|refine ap ?_)|(with_reducible refine hK _ ?_;clear hK K)|((with_reducible refine ai ?_ ?_);(· decide))|(with_reducible refine ac (fq _ _ ?_ _ _ ?_ ?_) ?_;(· simp);(· ((try simp only [List.length_append,List.length_map,List.length_cons,List.length_nil,List.take_length]);omega));(· omega)))
 ·have : tkC (.mk 1 [] []) = [[102,97,108,115,101]]:=rfl
  rw [this] at hb ⊢
  simp only [List.length_append,List.length_cons,List.length_nil] at hb
  refine aC [] Tryz.func94 rfl Tryz.ntmps94 (Nat.le_of_ble_eq_true rfl) (Nat.le_of_ble_eq_true rfl) fun w0 G0 B0 Pr hB0=>?_
  simp only [aJ,aB,List.cons_append,List.nil_append]
  repeat' (first|(with_reducible refine hY _ ?_;clear hY Y)|((with_reducible first|refine ar rfl (ay fun K' hK'=>aa ?_)|refine hK' _ (ab fun Y hY=>aa ?_)|refine ab fun Y hY=>aa ?_|refine ae tk0 KK (ab fun Y hY=>aa ?_)|refine aa ?_|refine dw ?_);(try clear hK' K');(try dsimp only [aop]);try simp only [go_sem,seval,KK,Tryz.results94,hM])|(with_reducible first|refine ag ?_|refine aj ?_|refine am ?_|refine aF fun K hK=>?_|refine ax ?_|refine av ?_|refine aR ?_|refine ap ?_)|(with_reducible refine hK _ ?_;clear hK K)|((with_reducible refine ai ?_ ?_);(· decide))|(with_reducible refine ac (fq _ _ ?_ _ _ ?_ ?_) ?_;(· simp);(· ((try simp only [List.length_append,List.length_map,List.length_cons,List.length_nil,List.take_length]);omega));(· omega)))
set_option maxRecDepth 100000 in
set_option maxHeartbeats 8000000 in
theorem Di (a : PC) (hs : seC a = true) (hx : WrX a) : jP (.mk 6 [] [a]):=fun M m hM hb=>by
 have e1 : tkC (.mk 6 [] [a]) = [[33]]++fT (hi7 a) (tkC a):=by rw [tkC,jz];simp [hi7]
 rw [e1] at hb ⊢
 have cx:=hx (hi7 a)
 have e2 : db [a] = bR a:=by simp [db]
 have na:=(dv a).nm3
 have ra:=(dv a).rn3
 have q1:=eR a
 have q2 : (bR a).take 3 = bR a:=List.take_of_length_le (by omega)
 have q3:=rh a []
 rw [List.append_nil] at q3
 have q4:=zy hs
 simp only [bR,e2,bY]
 generalize a.kind = ak at *
 generalize hi7 a = h7 at *
 generalize fT h7 (tkC a) = TA at *
 generalize bR a = A at *
 clear hx e2 e1 hs
 simp only [List.length_append,List.length_cons,List.length_nil] at hb
 refine aC [] Tryz.func94 rfl Tryz.ntmps94 (Nat.le_of_ble_eq_true rfl) (Nat.le_of_ble_eq_true rfl) fun w0 G0 B0 Pr hB0=>?_
 simp only [aJ,aB,List.cons_append,List.nil_append]
 repeat' (first|(with_reducible refine hY _ ?_;clear hY Y)|((with_reducible first|refine ar rfl (ay fun K' hK'=>aa ?_)|refine hK' _ (ab fun Y hY=>aa ?_)|refine ab fun Y hY=>aa ?_|refine ae tk0 KK (ab fun Y hY=>aa ?_)|refine aa ?_|refine cX rfl (dx fun K' hK'=>aa ?_)|refine hK' _ _ (ab fun Y hY=>aa ?_)|refine dw ?_);(try clear hK' K');(try dsimp only [aop]);try simp only [go_sem,seval,KK,Tryz.results94,hM,na,ra,q1,q2,q3,q4])|(with_reducible first|refine ag ?_|refine aj ?_|refine am ?_|refine aF fun K hK=>?_|refine ax ?_|refine av ?_|refine aR ?_|refine ap ?_|refine bV ?_|refine eS fun K hK=>?_)|(with_reducible refine hK _ ?_;clear hK K)|(with_reducible refine hK _ _ ?_ ?_;(· kernel_rfl);clear hK K)|((with_reducible refine ai ?_ ?_);(· decide))|(with_reducible refine bU tk0 KK ?_ ?_;(· kernel_rfl))|(with_reducible refine br ?_ ?_;(· (try and_intros) <;> first|omega|assumption|(simp only [List.length_append,List.length_map,List.length_cons,List.length_nil] <;> omega)))|(with_reducible refine ac (cx _ _ ?_ ?_) ?_;(· ((try simp only [List.length_append,List.length_map,List.length_cons,List.length_nil,List.take_length]);omega));(· omega))|(with_reducible refine ac (fq _ _ ?_ _ _ ?_ ?_) ?_;(· simp);(· ((try simp only [List.length_append,List.length_map,List.length_cons,List.length_nil,List.take_length]);omega));(· omega)))
 all_goals (simp <;> omega)
set_option maxRecDepth 100000 in
set_option maxHeartbeats 8000000 in
theorem Dj (a b : PC) (hs : seC b = true) (ha : WrX a) (hb' : WrX b) : jP (.mk 7 [] [a,b]):=fun M m hM hb=>by
 have e1 : tkC (.mk 7 [] [a,b]) = fT (hi8 a) (tkC a)++[[38,38]]++fT (hi7 b) (tkC b):=by rw [tkC,jz];simp [hi7,hi8]
 rw [e1] at hb ⊢
 have ca:=ha (hi8 a)
 have cb:=hb' (hi7 b)
 have e2 : db [a,b] = bR a++bR b:=by simp [db]
 obtain ⟨q1,q2,q3⟩:=oV (eR a) (eR b)
 have na:=(dv a).nm3
 have ra:=(dv a).rn3
 have nb:=(dv b).nm3
 have rb:=(dv b).rn3
 have q4:=rh a (bR b)
 have q5:=sH a b
 have q6:=zy hs
 simp only [bR,e2,bY]
 generalize bR a++bR b = KS at *
 generalize hi7 b = h7 at *
 generalize fT h7 (tkC b) = TB at *
 unfold hi8 at *
 generalize fT (decide (a.kind = 8)) (tkC a) = TA at *
 generalize a.kind = ak at *
 generalize b.kind = bk at *
 generalize bR a = A at *
 generalize bR b = B at *
 clear ha hb' e2 e1 hs
 simp only [List.length_append,List.length_cons,List.length_nil] at hb
 refine aC [] Tryz.func94 rfl Tryz.ntmps94 (Nat.le_of_ble_eq_true rfl) (Nat.le_of_ble_eq_true rfl) fun w0 G0 B0 Pr hB0=>?_
 simp only [aJ,aB,List.cons_append,List.nil_append]
 repeat' (first|(with_reducible refine hY _ ?_;clear hY Y)|((with_reducible first|refine ar rfl (ay fun K' hK'=>aa ?_)|refine hK' _ (ab fun Y hY=>aa ?_)|refine ab fun Y hY=>aa ?_|refine ae tk0 KK (ab fun Y hY=>aa ?_)|refine aa ?_|refine cX rfl (dx fun K' hK'=>aa ?_)|refine hK' _ _ (ab fun Y hY=>aa ?_)|refine dw ?_);(try clear hK' K');(try dsimp only [aop]);try simp only [go_sem,seval,KK,Tryz.results94,hM,na,ra,nb,rb,q1,q2,q3,q4,q5,q6])|(with_reducible first|refine ag ?_|refine aj ?_|refine am ?_|refine aF fun K hK=>?_|refine ax ?_|refine av ?_|refine aR ?_|refine ap ?_|refine bV ?_|refine eS fun K hK=>?_)|(with_reducible refine hK _ ?_;clear hK K)|(with_reducible refine hK _ _ ?_ ?_;(· kernel_rfl);clear hK K)|((with_reducible refine ai ?_ ?_);(· decide))|(with_reducible refine bU tk0 KK ?_ ?_;(· kernel_rfl))|(with_reducible refine br ?_ ?_;(· (try and_intros) <;> first|omega|assumption|(simp only [List.length_append,List.length_map,List.length_cons,List.length_nil] <;> omega)))|(with_reducible refine ac (ca _ _ ?_ ?_) ?_;(· ((try simp only [List.length_append,List.length_map,List.length_cons,List.length_nil,List.take_length]);omega));(· omega))|(with_reducible refine ac (cb _ _ ?_ ?_) ?_;(· ((try simp only [List.length_append,List.length_map,List.length_cons,List.length_nil,List.take_length]);omega));(· omega))|(with_reducible refine ac (fq _ _ ?_ _ _ ?_ ?_) ?_;(· simp);(· ((try simp only [List.length_append,List.length_map,List.length_cons,List.length_nil,List.take_length]);omega));(· omega)))
 all_goals (simp <;> omega)
set_option maxRecDepth 100000 in
set_option maxHeartbeats 8000000 in
theorem Dk (a b : PC) (ha : jP a) (hb' : WrX b) : jP (.mk 8 [] [a,b]):=fun M m hM hb=>by
 have e1 : tkC (.mk 8 [] [a,b]) = tkC a++[[124,124]]++fT (hi8 b) (tkC b):=by rw [tkC,jz];simp [hi7,hi8]
 rw [e1] at hb ⊢
 have cb:=hb' (hi8 b)
 unfold jP at ha
 have e2 : db [a,b] = bR a++bR b:=by simp [db]
 obtain ⟨q1,q2,q3⟩:=oV (eR a) (eR b)
 have na:=(dv a).nm3
 have ra:=(dv a).rn3
 have nb:=(dv b).nm3
 have rb:=(dv b).rn3
 have q4:=rh a (bR b)
 have q5:=sH a b
 simp only [bR,e2,bY]
 generalize bR a++bR b = KS at *
 unfold hi8 at *
 generalize fT (decide (b.kind = 8)) (tkC b) = TB at *
 generalize tkC a = TA at *
 generalize a.kind = ak at *
 generalize b.kind = bk at *
 generalize bR a = A at *
 generalize bR b = B at *
 clear hb' e2 e1
 simp only [List.length_append,List.length_cons,List.length_nil] at hb
 refine aC [] Tryz.func94 rfl Tryz.ntmps94 (Nat.le_of_ble_eq_true rfl) (Nat.le_of_ble_eq_true rfl) fun w0 G0 B0 Pr hB0=>?_
 simp only [aJ,aB,List.cons_append,List.nil_append]
 repeat' (first|(with_reducible refine hY _ ?_;clear hY Y)|((with_reducible first|refine ar rfl (ay fun K' hK'=>aa ?_)|refine hK' _ (ab fun Y hY=>aa ?_)|refine ab fun Y hY=>aa ?_|refine ae tk0 KK (ab fun Y hY=>aa ?_)|refine aa ?_|refine cX rfl (dx fun K' hK'=>aa ?_)|refine hK' _ _ (ab fun Y hY=>aa ?_)|refine dw ?_);(try clear hK' K');(try dsimp only [aop]);try simp only [go_sem,seval,KK,Tryz.results94,hM,na,ra,nb,rb,q1,q2,q3,q4,q5])|(with_reducible first|refine ag ?_|refine aj ?_|refine am ?_|refine aF fun K hK=>?_|refine ax ?_|refine av ?_|refine aR ?_|refine ap ?_|refine bV ?_|refine eS fun K hK=>?_)|(with_reducible refine hK _ ?_;clear hK K)|(with_reducible refine hK _ _ ?_ ?_;(· kernel_rfl);clear hK K)|((with_reducible refine ai ?_ ?_);(· decide))|(with_reducible refine bU tk0 KK ?_ ?_;(· kernel_rfl))|(with_reducible refine br ?_ ?_;(· (try and_intros) <;> first|omega|assumption|(simp only [List.length_append,List.length_map,List.length_cons,List.length_nil] <;> omega)))|(with_reducible refine ac (ha _ _ ?_ ?_) ?_;(· ((try simp only [List.length_append,List.length_map,List.length_cons,List.length_nil,List.take_length]);omega));(· omega))|(with_reducible refine ac (cb _ _ ?_ ?_) ?_;(· ((try simp only [List.length_append,List.length_map,List.length_cons,List.length_nil,List.take_length]);omega));(· omega))|(with_reducible refine ac (fq _ _ ?_ _ _ ?_ ?_) ?_;(· simp);(· ((try simp only [List.length_append,List.length_map,List.length_cons,List.length_nil,List.take_length]);omega));(· omega)))
 all_goals (simp <;> omega)
theorem Dm (k : Int) (e : List PE) (ks : List PC) (hs : seC (.mk k e ks) = true) (he :∀ a ∈ e,WrE a) (hk :∀ a ∈ ks,seC a = true∧jP a∧WrX a) : jP (.mk k e ks):=by
 rw [seC] at hs
 simp only [Bool.and_eq_true] at hs
 obtain ⟨hs,_,_⟩:=hs
 unfold jC at hs
 by_cases k01 : k = 0∨k = 1
 ·rw [if_pos k01] at hs
  simp only [Bool.and_eq_true,decide_eq_true_eq] at hs
  obtain rfl:=List.eq_nil_of_length_eq_zero hs.1
  obtain rfl:=List.eq_nil_of_length_eq_zero hs.2
  exact AT k k01
 rw [if_neg k01] at hs
 by_cases k25 : k = 2∨k = 3∨k = 4∨k = 5
 ·rw [if_pos k25] at hs
  simp only [Bool.and_eq_true,decide_eq_true_eq] at hs
  obtain rfl:=List.eq_nil_of_length_eq_zero hs.2
  obtain ⟨a,b,rfl⟩ : ∃ a b,e = [a,b]:=by
   match e,hs.1 with
  |[a,b],_=>exact ⟨a,b,rfl⟩
  exact Dl k k25 a b (he a (by simp)) (he b (by simp))
 rw [if_neg k25] at hs
 by_cases k6 : k = 6
 ·subst k6
  simp only [if_true,Bool.and_eq_true,decide_eq_true_eq] at hs
  obtain rfl:=List.eq_nil_of_length_eq_zero hs.1
  obtain ⟨a,rfl⟩ : ∃ a,ks = [a]:=by
   match ks,hs.2 with
  |[a],_=>exact ⟨a,rfl⟩
  exact Di a (hk a (by simp)).1 (hk a (by simp)).2.2
 rw [if_neg k6] at hs
 by_cases k78 : k = 7∨k = 8
 ·rw [if_pos k78] at hs
  simp only [Bool.and_eq_true,decide_eq_true_eq] at hs
  obtain rfl:=List.eq_nil_of_length_eq_zero hs.1
  obtain ⟨a,b,rfl⟩ : ∃ a b,ks = [a,b]:=by
   match ks,hs.2 with
  |[a,b],_=>exact ⟨a,b,rfl⟩
  rcases k78 with rfl|rfl
  ·exact Dj a b (hk b (by simp)).1 (hk a (by simp)).2.2 (hk b (by simp)).2.2
  ·exact Dk a b (hk a (by simp)).2.1 (hk b (by simp)).2.2
 ·rw [if_neg k78] at hs;cases hs
mutual
theorem mo (hi : ItC) :∀ e,seC e = true→seC e = true∧jP e∧WrX e
|.mk k e ks,hs=>by
  have hs2:=hs
  rw [seC] at hs2
  simp only [Bool.and_eq_true] at hs2
  have h4:=Dm k e ks hs (fun a ha=>(kw hi e hs2.2.1 a ha).1) (sV hi ks hs2.2.2)
  exact ⟨hs,h4,Dp _ h4⟩
theorem sV (hi : ItC) :∀ l,lO l = true→∀ a ∈ l,seC a = true∧jP a∧WrX a
|[],_=>fun e he=>absurd he List.not_mem_nil
|e :: r,hs=>fun a ha=>by
  rw [lO,Bool.and_eq_true] at hs
  exact (List.mem_cons.1 ha).elim (fun q=>q ▸ mo hi e hs.1) (sV hi r hs.2 a)
end
end Go.Proofs.YtkjnkkmokojnpaaGreatDoor
