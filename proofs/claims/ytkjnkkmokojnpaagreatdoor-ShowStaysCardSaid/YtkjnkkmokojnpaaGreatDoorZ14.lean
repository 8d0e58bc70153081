/- The document's texts in K: numbers, expressions, conditions. The document's texts in K: conditions. -/
import Derived.Test.YtkjnkkmokojnpaaGreatDoorZ7
import Derived.Test.YtkjnkkmokojnpaaGreatDoorZ9
import Derived.Test.YtkjnkkmokojnpaaGreatDoorZ13
namespace Go.Proofs.YtkjnkkmokojnpaaGreatDoor
set_option linter.unusedSimpArgs false
set_option linter.unusedVariables false
open Go.RowKit
abbrev dgD : ByteArray:=⟨#[48,49,50,51,52,53,54,55,56,57]⟩
theorem zk : ∀ m : Nat,m < 10→dgD.extract m (m + 1) = ⟨#[UInt8.ofNat (48 + m)]⟩:=by decide
def cW : Nat→List Nat
 | 0=>[0]
 | 1=>[0]
 | 2=>[0]
 | 3=>[0]
 | 4=>[0,3]
 | 5=>[0,3]
 | 6=>[0,3]
 | _=>[]
set_option maxRecDepth 100000 in
set_option maxHeartbeats 4000000 in
theorem zn (m : Nat) (hm : m≤1073741824) (hl : (dec (m / 10)).length≤1000000000000) (h : 10≤m→AFn Tryz.prog 89 [inA ((m / 10 : Nat) : Int)] [] (bs (dec (m / 10))) []) : AFn Tryz.prog 89 [inA (m : Int)] [] (bs (dec m)) []:=by
 have h0 : ((m : Int) < 0) = False:=eq_false (by omega)
 by_cases hlt : m < 10
 ·have h1 : ((m : Int) < 10) = True:=eq_true (by omega)
  have hw : IntKind.i64.wrap ((m : Int) + 1) = ((m + 1 : Nat) : Int):=by rw [bZ (by omega) (by omega)];rfl
  have he:=zk m hlt
  rw [yX hlt]
  refine aC [] Tryz.func89 rfl Tryz.ntmps89 (Nat.le_of_ble_eq_true rfl) (Nat.le_of_ble_eq_true rfl) fun w0 G0 B0 Pr hB0=>?_
  simp only [aJ,aB,List.cons_append,List.nil_append]
  repeat' (first | (with_reducible refine hY _ ?_;clear hY Y) | ((with_reducible first | refine ar rfl (ay fun K' hK'=>aa ?_) | refine hK' _ (ab fun Y hY=>aa ?_) | refine ab fun Y hY=>aa ?_ | refine ae tk0 cW (ab fun Y hY=>aa ?_) | refine aa ?_ | refine aq ?_);(try clear hK' K');(try dsimp only [aop]);try simp only [go_sem,seval,cW,Tryz.results89,h0,h1,hw,he]) | (with_reducible first | refine ag ?_ | refine aj ?_ | refine am ?_ | refine aF fun K hK=>?_ | refine ax ?_ | refine av ?_ | refine aZ ?_ | refine aD ?_ | refine aA ?_) | (with_reducible refine hK _ ?_;clear hK K) | ((with_reducible refine ai ?_ ?_);(· decide)) | (with_reducible refine br ?_ ?_;(· (try and_intros) <;> first | omega | assumption | (simp only [List.length_append,List.length_map,List.length_cons,List.length_nil] <;> omega))))
 ·have h1 : ((m : Int) < 10) = False:=eq_false (by omega)
  have h2:=h (by omega)
  have hq : IntKind.i64.wrap ((m : Int).tdiv 10) = ((m / 10 : Nat) : Int):=by
   have e : (m : Int).tdiv 10 = ((m / 10 : Nat) : Int):=Int.ofNat_tdiv m 10
   rw [e,bZ (by omega) (by omega)]
  have hr : (m : Int).tmod 10 = ((m % 10 : Nat) : Int):=Int.ofNat_tmod m 10
  have hw : IntKind.i64.wrap (((m % 10 : Nat) : Int) + 1) = ((m % 10 + 1 : Nat) : Int):=by rw [bZ (by omega) (by omega)];rfl
  have he:=zk (m % 10) (by omega)
  rw [yW (by omega)]
  have hlt:=Nat.mod_lt m (y:=10) (by decide)
  clear h
  generalize dec (m / 10) = D at *
  generalize m / 10 = q at *
  generalize m % 10 = r at *
  refine aC [] Tryz.func89 rfl Tryz.ntmps89 (Nat.le_of_ble_eq_true rfl) (Nat.le_of_ble_eq_true rfl) fun w0 G0 B0 Pr hB0=>?_
  simp only [aJ,aB,List.cons_append,List.nil_append]
  repeat' (first | (with_reducible refine hY _ ?_;clear hY Y) | ((with_reducible first | refine ar rfl (ay fun K' hK'=>aa ?_) | refine hK' _ (ab fun Y hY=>aa ?_) | refine ab fun Y hY=>aa ?_ | refine ae tk0 cW (ab fun Y hY=>aa ?_) | refine aa ?_ | refine aq ?_ | refine cX rfl (dx fun K' hK'=>aa ?_) | refine hK' _ _ (ab fun Y hY=>aa ?_));(try clear hK' K');(try dsimp only [aop]);try simp only [go_sem,seval,cW,Tryz.results89,h0,h1,hq,hr,hw,he]) | (with_reducible first | refine ag ?_ | refine aj ?_ | refine am ?_ | refine aF fun K hK=>?_ | refine av ?_ | refine aD ?_ | refine aA ?_ | refine bV ?_ | refine eS fun K hK=>?_) | (with_reducible refine hK _ ?_;clear hK K) | (with_reducible refine hK _ _ ?_ ?_;(· kernel_rfl);clear hK K) | ((with_reducible refine ai ?_ ?_);(· decide)) | (with_reducible refine bU tk0 cW ?_ ?_;(· kernel_rfl)) | (with_reducible refine br ?_ ?_;(· (try and_intros) <;> first | omega | assumption | (simp only [List.length_append,List.length_map,List.length_cons,List.length_nil] <;> omega))) | (with_reducible refine ac (h2) ?_) | (with_reducible refine bg (cE _ _ ?_) ?_;(· (try simp only [List.length_append,List.length_cons,List.length_nil]);omega)))
theorem qw : ∀ f m : Nat,m < f→m≤1073741824→AFn Tryz.prog 89 [inA (m : Int)] [] (bs (dec m)) []
 | 0,m,h,_=>absurd h (Nat.not_lt_zero _)
 | f + 1,m,h,hm=>zn m hm (by have:=pF (n:=m / 10) (by omega);omega) fun h10=>qw f (m / 10) (by omega) (by omega)
set_option maxRecDepth 100000 in
set_option maxHeartbeats 4000000 in
theorem nn {n : Int} (h : gK n = true) : AFn Tryz.prog 89 [inA n] [] (bs (dg n)) []:=by
 unfold gK at h
 simp only [Bool.and_eq_true,decide_eq_true_eq] at h
 by_cases hn : n < 0
 ·have h1:=qw _ (-n).toNat (Nat.lt_succ_self _) (by omega)
  have hl:=pF (n:=(-n).toNat) (by omega)
  rw [DZ hn]
  have h0 : (n < 0) = True:=eq_true hn
  have hw : IntKind.i64.wrap (0 - n) = (((-n).toNat : Nat) : Int):=by rw [bZ (by omega) (by omega)];omega
  generalize (-n).toNat = m at *
  generalize dec m = D at *
  refine aC [] Tryz.func89 rfl Tryz.ntmps89 (Nat.le_of_ble_eq_true rfl) (Nat.le_of_ble_eq_true rfl) fun w0 G0 B0 Pr hB0=>?_
  simp only [aJ,aB,List.cons_append,List.nil_append]
  repeat' (first | (with_reducible refine hY _ ?_;clear hY Y) | ((with_reducible first | refine ar rfl (ay fun K' hK'=>aa ?_) | refine hK' _ (ab fun Y hY=>aa ?_) | refine ab fun Y hY=>aa ?_ | refine ae tk0 cW (ab fun Y hY=>aa ?_) | refine aa ?_ | refine aq ?_);(try clear hK' K');(try dsimp only [aop]);try simp only [go_sem,seval,cW,Tryz.results89,h0,hw]) | (with_reducible first | refine ag ?_ | refine aj ?_ | refine am ?_ | refine aF fun K hK=>?_ | refine ax ?_ | refine aZ ?_ | refine aA ?_) | (with_reducible refine hK _ ?_;clear hK K) | ((with_reducible refine ai ?_ ?_);(· decide)) | (with_reducible refine ac (h1) ?_) | (with_reducible refine bg (cE _ _ ?_) ?_;(· (try simp only [List.length_append,List.length_cons,List.length_nil]);omega)))
 ·have h1:=qw _ n.toNat (Nat.lt_succ_self _) (by omega)
  rw [D0 hn]
  rw [show ((n.toNat : Nat) : Int) = n by omega] at h1
  exact h1
structure TxE (e : PE) : Prop where
 len : (aX (tkE e)).length≤1000000000000
 tells : AFn Tryz.prog 88 [.agg (peA e)] [] (bs (aX (tkE e))) []
structure TxI (e : PE) : Prop where
 len : (aX (jg e)).length≤1000000000000
 tells : AFn Tryz.prog 168 [.agg (peA e)] [] (bs (aX (jg e))) []
def dh : Nat→List Nat
 | 0=>[0]
 | 1=>[1]
 | 2=>[1]
 | 3=>[1]
 | _=>[]
set_option maxRecDepth 100000 in
set_option maxHeartbeats 4000000 in
theorem xX (e : PE) (h : TxE e) (hl : (aX (jg e)).length≤1000000000000) : TxI e:=by
 refine ⟨hl,?_⟩
 obtain ⟨h1,h2⟩:=h
 by_cases hk : e.kind = 2∨e.kind = 3
 ·rw [FK hk]
  obtain ⟨k,n,x,ks⟩:=e
  simp only [PE.kind] at hk
  generalize aX (tkE (.mk k n x ks)) = T at *
  simp only [peA] at h2 ⊢
  generalize bY ks = KS at *
  rcases hk with rfl | rfl
  ·refine aC [] Tryz.func168 rfl Tryz.ntmps168 (Nat.le_of_ble_eq_true rfl) (Nat.le_of_ble_eq_true rfl) fun w0 G0 B0 Pr hB0=>?_
   simp only [aJ,aB,List.cons_append,List.nil_append]
   repeat' (first | (with_reducible refine hY _ ?_;clear hY Y) | ((with_reducible first | refine ar rfl (ay fun K' hK'=>aa ?_) | refine hK' _ (ab fun Y hY=>aa ?_) | refine ba rfl (ab fun Y hY=>aa ?_) | refine ab fun Y hY=>aa ?_ | refine ae tk0 dh (ab fun Y hY=>aa ?_) | refine aa ?_ | refine aq ?_);(try clear hK' K');(try dsimp only [aop]);try simp only [go_sem,seval,dh,Tryz.results168]) | (with_reducible first | refine ag ?_ | refine aW rfl ?_ | refine dc ?_ ?_ | refine aj ?_ | refine am ?_ | refine aF fun K hK=>?_ | refine ax ?_ | refine aZ ?_ | refine aA ?_) | (with_reducible refine hK _ ?_;clear hK K) | ((with_reducible first | refine aI ?_ ?_ | refine ai ?_ ?_);(· decide)) | (with_reducible refine ac (h2) ?_) | (with_reducible refine bg (cE _ _ ?_) ?_;(· (try simp only [List.length_append,List.length_cons,List.length_nil]);omega)))
  ·refine aC [] Tryz.func168 rfl Tryz.ntmps168 (Nat.le_of_ble_eq_true rfl) (Nat.le_of_ble_eq_true rfl) fun w0 G0 B0 Pr hB0=>?_
   simp only [aJ,aB,List.cons_append,List.nil_append]
   repeat' (first | (with_reducible refine hY _ ?_;clear hY Y) | ((with_reducible first | refine ar rfl (ay fun K' hK'=>aa ?_) | refine hK' _ (ab fun Y hY=>aa ?_) | refine ba rfl (ab fun Y hY=>aa ?_) | refine ab fun Y hY=>aa ?_ | refine ay fun K' hK'=>aa ?_ | refine ae tk0 dh (ab fun Y hY=>aa ?_) | refine aa ?_ | refine aq ?_);(try clear hK' K');(try dsimp only [aop]);try simp only [go_sem,seval,dh,Tryz.results168]) | (with_reducible first | refine ag ?_ | refine aK ?_ | refine aj ?_ | refine am ?_ | refine aF fun K hK=>?_ | refine ax ?_ | refine aZ ?_ | refine aA ?_) | (with_reducible refine hK _ ?_;clear hK K) | ((with_reducible first | refine aI ?_ ?_ | refine ai ?_ ?_);(· decide)) | (with_reducible refine ac (h2) ?_) | (with_reducible refine bg (cE _ _ ?_) ?_;(· (try simp only [List.length_append,List.length_cons,List.length_nil]);omega)))
 ·rw [EN hk]
  obtain ⟨k,n,x,ks⟩:=e
  simp only [PE.kind] at hk
  generalize aX (tkE (.mk k n x ks)) = T at *
  simp only [peA] at h2 ⊢
  generalize bY ks = KS at *
  have k2 : (k = 2) = False:=eq_false (by omega)
  have k3 : (k = 3) = False:=eq_false (by omega)
  refine aC [] Tryz.func168 rfl Tryz.ntmps168 (Nat.le_of_ble_eq_true rfl) (Nat.le_of_ble_eq_true rfl) fun w0 G0 B0 Pr hB0=>?_
  simp only [aJ,aB,List.cons_append,List.nil_append]
  repeat' (first | (with_reducible refine hY _ ?_;clear hY Y) | ((with_reducible first | refine ar rfl (ay fun K' hK'=>aa ?_) | refine hK' _ (ab fun Y hY=>aa ?_) | refine ba rfl (ab fun Y hY=>aa ?_) | refine ab fun Y hY=>aa ?_ | refine ay fun K' hK'=>aa ?_ | refine ae tk0 dh (ab fun Y hY=>aa ?_) | refine aa ?_ | refine aq ?_);(try clear hK' K');(try dsimp only [aop]);try simp only [go_sem,seval,dh,Tryz.results168,k2,k3]) | (with_reducible first | refine ag ?_ | refine aK ?_ | refine aj ?_ | refine am ?_ | refine aF fun K hK=>?_ | refine av ?_ | refine aD ?_ | refine aA ?_) | (with_reducible refine hK _ ?_;clear hK K) | ((with_reducible first | refine aI ?_ ?_ | refine ai ?_ ?_);(· decide)) | (with_reducible refine ac (h2) ?_))
theorem sS {A B : List AV} {n : Nat} (hA : A.length = n) (hB : B.length = n) : (A ++ B).take n = A∧((A ++ B).drop n).take n = B∧(A ++ B).length = n + n:=by
 subst hA
 refine ⟨by simp,by rw [List.drop_left];rw [← hB,List.take_length],by simp [hB]⟩
def DP : PE→List PE
 | .mk _ _ _ ks=>ks
def bJ : Nat→List Nat
 | 0=>[0]
 | 1=>[1]
 | 2=>[1,5]
 | 3=>[1]
 | 4=>[1,5]
 | 5=>[1]
 | 6=>[1,5]
 | 7=>[1]
 | 8=>[1]
 | 9=>[1,3]
 | 10=>[1]
 | 11=>[1,3]
 | _=>[]
set_option maxRecDepth 100000 in
set_option maxHeartbeats 8000000 in
theorem CQ (e : PE) (hs : seE e = true) (hl : (aX (tkE e)).length≤1000000000000) (hk : ∀ a ∈ DP e,TxE a∧TxI a) : TxE e:=by
 refine ⟨hl,?_⟩
 obtain ⟨k,n,x,ks⟩:=e
 rw [seE,Bool.and_eq_true] at hs
 obtain ⟨hs,_⟩:=hs
 unfold rU at hs
 simp only [DP] at hk
 by_cases k0 : k = 0
 ·subst k0
  simp only [if_true,Bool.and_eq_true] at hs
  have h1:=nn hs.1
  have e1 : aX (tkE (.mk 0 n x ks)) = dg n:=by rw [tkE,if_pos rfl]
  rw [e1]
  simp only [peA]
  generalize bY ks = KS at *
  generalize dg n = D at *
  refine aC [] Tryz.func88 rfl Tryz.ntmps88 (Nat.le_of_ble_eq_true rfl) (Nat.le_of_ble_eq_true rfl) fun w0 G0 B0 Pr hB0=>?_
  simp only [aJ,aB,List.cons_append,List.nil_append]
  repeat' (first | (with_reducible refine hY _ ?_;clear hY Y) | ((with_reducible first | refine ar rfl (ay fun K' hK'=>aa ?_) | refine hK' _ (ab fun Y hY=>aa ?_) | refine ab fun Y hY=>aa ?_ | refine ae tk0 bJ (ab fun Y hY=>aa ?_) | refine aa ?_ | refine aq ?_);(try clear hK' K');(try dsimp only [aop]);try simp only [go_sem,seval,bJ,Tryz.results88]) | (with_reducible first | refine ag ?_ | refine aj ?_ | refine am ?_ | refine aF fun K hK=>?_ | refine ax ?_ | refine aZ ?_ | refine bh ?_ | refine ap ?_ | refine aA ?_) | (with_reducible refine hK _ ?_;clear hK K) | ((with_reducible refine ai ?_ ?_);(· decide)) | (with_reducible refine ac (h1) ?_))
 rw [if_neg k0] at hs
 by_cases k1 : k = 1
 ·subst k1
  have e1 : aX (tkE (.mk 1 n x ks)) = x:=by rw [tkE,if_neg (by decide),if_pos rfl];rfl
  rw [e1]
  simp only [peA]
  generalize bY ks = KS at *
  refine aC [] Tryz.func88 rfl Tryz.ntmps88 (Nat.le_of_ble_eq_true rfl) (Nat.le_of_ble_eq_true rfl) fun w0 G0 B0 Pr hB0=>?_
  simp only [aJ,aB,List.cons_append,List.nil_append]
  repeat' (first | (with_reducible refine hY _ ?_;clear hY Y) | ((with_reducible first | refine ar rfl (ay fun K' hK'=>aa ?_) | refine hK' _ (ab fun Y hY=>aa ?_) | refine ab fun Y hY=>aa ?_ | refine ae tk0 bJ (ab fun Y hY=>aa ?_) | refine aa ?_ | refine aq ?_);(try clear hK' K');(try dsimp only [aop]);try simp only [go_sem,seval,bJ,Tryz.results88]) | (with_reducible first | refine ag ?_ | refine aj ?_ | refine am ?_ | refine aF fun K hK=>?_ | refine ax ?_ | refine av ?_ | refine aZ ?_ | refine bh ?_ | refine ap ?_ | refine aA ?_) | (with_reducible refine hK _ ?_;clear hK K) | ((with_reducible refine ai ?_ ?_);(· decide)))
 rw [if_neg k1] at hs
 by_cases k23 : k = 2∨k = 3
 ·rw [if_pos k23] at hs
  simp only [Bool.and_eq_true,decide_eq_true_eq] at hs
  obtain ⟨a,b,rfl⟩ : ∃ a b,ks = [a,b]:=by
   match ks,hs.2.2 with
   | [a,b],_=>exact ⟨a,b,rfl⟩
  have ha:=(hk a (by simp)).1
  have hb:=(hk b (by simp)).2
  rw [EL k23]
  obtain ⟨la,ca⟩:=ha
  obtain ⟨lb,cb⟩:=hb
  have e2 : bY [a,b] = peA a ++ peA b:=by simp [bY]
  obtain ⟨q1,q2,q3⟩:=sS (eZ a) (eZ b)
  have na:=(cQ a).nm3
  have ra:=(cQ a).rn3
  have nb:=(cQ b).nm3
  have rb:=(cQ b).rn3
  simp only [peA,e2]
  generalize peA a ++ peA b = KS at *
  generalize peA a = A at *
  generalize peA b = B at *
  generalize aX (tkE a) = TA at *
  generalize aX (jg b) = TB at *
  clear hk e2
  rcases k23 with rfl | rfl
  ·rw [if_neg (by decide)]
   refine aC [] Tryz.func88 rfl Tryz.ntmps88 (Nat.le_of_ble_eq_true rfl) (Nat.le_of_ble_eq_true rfl) fun w0 G0 B0 Pr hB0=>?_
   simp only [aJ,aB,List.cons_append,List.nil_append]
   repeat' (first | (with_reducible refine hY _ ?_;clear hY Y) | ((with_reducible first | refine ar rfl (ay fun K' hK'=>aa ?_) | refine hK' _ (ab fun Y hY=>aa ?_) | refine ab fun Y hY=>aa ?_ | refine ae tk0 bJ (ab fun Y hY=>aa ?_) | refine aa ?_ | refine aq ?_ | refine cX rfl (dx fun K' hK'=>aa ?_) | refine hK' _ _ (ab fun Y hY=>aa ?_));(try clear hK' K');(try dsimp only [aop]);try simp only [go_sem,seval,bJ,Tryz.results88,q1,q2,q3,na,ra,nb,rb]) | (with_reducible first | refine ag ?_ | refine aj ?_ | refine am ?_ | refine aF fun K hK=>?_ | refine av ?_ | refine aR ?_ | refine ap ?_ | refine aD ?_ | refine aA ?_ | refine bV ?_ | refine eS fun K hK=>?_) | (with_reducible refine hK _ ?_;clear hK K) | (with_reducible refine hK _ _ ?_ ?_;(· kernel_rfl);clear hK K) | ((with_reducible refine ai ?_ ?_);(· decide)) | (with_reducible refine bU tk0 bJ ?_ ?_;(· kernel_rfl)) | (with_reducible refine br ?_ ?_;(· (try and_intros) <;> first | omega | assumption | (simp only [List.length_append,List.length_map,List.length_cons,List.length_nil] <;> omega))) | (with_reducible refine ac (ca) ?_) | (with_reducible refine ac (cb) ?_) | (with_reducible refine bg (cE _ _ ?_) ?_;(· (try simp only [List.length_append,List.length_cons,List.length_nil]);omega)))
  ·rw [if_pos rfl]
   refine aC [] Tryz.func88 rfl Tryz.ntmps88 (Nat.le_of_ble_eq_true rfl) (Nat.le_of_ble_eq_true rfl) fun w0 G0 B0 Pr hB0=>?_
   simp only [aJ,aB,List.cons_append,List.nil_append]
   repeat' (first | (with_reducible refine hY _ ?_;clear hY Y) | ((with_reducible first | refine ar rfl (ay fun K' hK'=>aa ?_) | refine hK' _ (ab fun Y hY=>aa ?_) | refine ab fun Y hY=>aa ?_ | refine ae tk0 bJ (ab fun Y hY=>aa ?_) | refine aa ?_ | refine aq ?_ | refine cX rfl (dx fun K' hK'=>aa ?_) | refine hK' _ _ (ab fun Y hY=>aa ?_));(try clear hK' K');(try dsimp only [aop]);try simp only [go_sem,seval,bJ,Tryz.results88,q1,q2,q3,na,ra,nb,rb]) | (with_reducible first | refine ag ?_ | refine aj ?_ | refine am ?_ | refine aF fun K hK=>?_ | refine ax ?_ | refine av ?_ | refine aR ?_ | refine ap ?_ | refine aD ?_ | refine aA ?_ | refine bV ?_ | refine eS fun K hK=>?_) | (with_reducible refine hK _ ?_;clear hK K) | (with_reducible refine hK _ _ ?_ ?_;(· kernel_rfl);clear hK K) | ((with_reducible refine ai ?_ ?_);(· decide)) | (with_reducible refine bU tk0 bJ ?_ ?_;(· kernel_rfl)) | (with_reducible refine br ?_ ?_;(· (try and_intros) <;> first | omega | assumption | (simp only [List.length_append,List.length_map,List.length_cons,List.length_nil] <;> omega))) | (with_reducible refine ac (ca) ?_) | (with_reducible refine ac (cb) ?_) | (with_reducible refine bg (cE _ _ ?_) ?_;(· (try simp only [List.length_append,List.length_cons,List.length_nil]);omega)))
 rw [if_neg k23] at hs
 by_cases k4 : k = 4
 ·subst k4
  simp only [if_true,Bool.and_eq_true,decide_eq_true_eq] at hs
  obtain ⟨a,rfl⟩ : ∃ a,ks = [a]:=by
   match ks,hs.2.2 with
   | [a],_=>exact ⟨a,rfl⟩
  obtain ⟨la,ca⟩:=(hk a (by simp)).2
  have h1:=nn hs.1
  have hd:=vV hs.1
  rw [Fw]
  have e2 : bY [a] = peA a:=by simp [bY]
  have na:=(cQ a).nm3
  have ra:=(cQ a).rn3
  have q1:=eZ a
  have q2 : (peA a).take 4 = peA a:=List.take_of_length_le (by omega)
  simp only [peA,e2]
  generalize peA a = A at *
  generalize aX (jg a) = TA at *
  generalize dg n = D at *
  clear hk e2
  refine aC [] Tryz.func88 rfl Tryz.ntmps88 (Nat.le_of_ble_eq_true rfl) (Nat.le_of_ble_eq_true rfl) fun w0 G0 B0 Pr hB0=>?_
  simp only [aJ,aB,List.cons_append,List.nil_append]
  repeat' (first | (with_reducible refine hY _ ?_;clear hY Y) | ((with_reducible first | refine ar rfl (ay fun K' hK'=>aa ?_) | refine hK' _ (ab fun Y hY=>aa ?_) | refine ab fun Y hY=>aa ?_ | refine ae tk0 bJ (ab fun Y hY=>aa ?_) | refine aa ?_ | refine aq ?_ | refine cX rfl (dx fun K' hK'=>aa ?_) | refine hK' _ _ (ab fun Y hY=>aa ?_));(try clear hK' K');(try dsimp only [aop]);try simp only [go_sem,seval,bJ,Tryz.results88,q1,q2,na,ra]) | (with_reducible first | refine ag ?_ | refine aj ?_ | refine am ?_ | refine aF fun K hK=>?_ | refine ax ?_ | refine av ?_ | refine aZ ?_ | refine bh ?_ | refine ap ?_ | refine aA ?_ | refine bV ?_ | refine eS fun K hK=>?_) | (with_reducible refine hK _ ?_;clear hK K) | (with_reducible refine hK _ _ ?_ ?_;(· kernel_rfl);clear hK K) | ((with_reducible refine ai ?_ ?_);(· decide)) | (with_reducible refine bU tk0 bJ ?_ ?_;(· kernel_rfl)) | (with_reducible refine br ?_ ?_;(· (try and_intros) <;> first | omega | assumption | (simp only [List.length_append,List.length_map,List.length_cons,List.length_nil] <;> omega))) | (with_reducible refine ac (h1) ?_) | (with_reducible refine ac (ca) ?_) | (with_reducible refine bg (cE _ _ ?_) ?_;(· (try simp only [List.length_append,List.length_cons,List.length_nil]);omega)))
 ·rw [if_neg k4] at hs;cases hs
mutual
theorem oo : ∀ e,seE e = true→nE e≤1000000000→TxE e∧TxI e
 | .mk k n x ks,hs,hn=>by
  have hl:=li (.mk k n x ks) hs
  have h1:=gk (tkE (.mk k n x ks))
  have h2:=gk (jg (.mk k n x ks))
  have h3:=tu ((PE.mk k n x ks).kind,tkE (.mk k n x ks))
  have hs2 : gV ks = true:=by rw [seE,Bool.and_eq_true] at hs;exact hs.2
  have hn2 : nEs ks≤1000000000:=by rw [nE] at hn;omega
  have h4:=CQ (.mk k n x ks) hs (by omega) (ku ks hs2 hn2)
  exact ⟨h4,xX _ h4 (by unfold jg at *;dsimp only at h3;omega)⟩
theorem ku : ∀ l,gV l = true→nEs l≤1000000000→∀ a ∈ l,TxE a∧TxI a
 | [],_,_=>fun e he=>absurd he List.not_mem_nil
 | e :: r,hs,hn=>fun a ha=>by
  rw [gV,Bool.and_eq_true] at hs
  rw [nEs] at hn
  exact (List.mem_cons.1 ha).elim (fun q=>q ▸ oo e hs.1 (by omega)) (ku r hs.2 (by omega) a)
end
theorem CP : TxE (.mk 0 0 [] []):=(oo (.mk 0 0 [] []) (by decide) (by decide)).1
end Go.Proofs.YtkjnkkmokojnpaaGreatDoor
namespace Go.Proofs.YtkjnkkmokojnpaaGreatDoor
set_option linter.unusedSimpArgs false
set_option linter.unusedVariables false
open Go.RowKit
structure TxC (c : PC) : Prop where
 len : (aX (tkC c)).length≤1000000000000
 tells : AFn Tryz.prog 87 [.agg (bR c)] [] (bs (aX (tkC c))) []
structure TxX (c : PC) : Prop where
 len : ∀ b,(aX (fT b (tkC c))).length≤1000000000000
 tells : ∀ b,AFn Tryz.prog 167 [.agg (bR c),.c (.bool b)] [] (bs (aX (fT b (tkC c)))) []
def ec : Nat→List Nat
 | 0=>[0,1]
 | 1=>[1,2]
 | 2=>[2]
 | 3=>[2]
 | _=>[]
set_option maxRecDepth 100000 in
set_option maxHeartbeats 4000000 in
theorem yS (c : PC) (h : TxC c) (hl : ∀ b,(aX (fT b (tkC c))).length≤1000000000000) : TxX c:=by
 refine ⟨hl,fun b=>?_⟩
 obtain ⟨h1,h2⟩:=h
 rw [EM]
 obtain ⟨k,e,ks⟩:=c
 generalize aX (tkC (.mk k e ks)) = T at *
 simp only [bR] at h2 ⊢
 generalize bY e = ES at *
 generalize db ks = KS at *
 cases b
 ·simp only [Bool.false_eq_true,if_false]
  refine aC [] Tryz.func167 rfl Tryz.ntmps167 (Nat.le_of_ble_eq_true rfl) (Nat.le_of_ble_eq_true rfl) fun w0 G0 B0 Pr hB0=>?_
  simp only [aJ,aB,List.cons_append,List.nil_append]
  repeat' (first | (with_reducible refine hY _ ?_;clear hY Y) | ((with_reducible first | refine ar rfl (ay fun K' hK'=>aa ?_) | refine hK' _ (ab fun Y hY=>aa ?_) | refine ab fun Y hY=>aa ?_ | refine ae tk0 ec (ab fun Y hY=>aa ?_) | refine aa ?_ | refine aq ?_);(try clear hK' K');(try dsimp only [aop]);try simp only [go_sem,seval,ec,Tryz.results167]) | (with_reducible first | refine ag ?_ | refine aj ?_ | refine am ?_ | refine aF fun K hK=>?_ | refine av ?_ | refine aD ?_ | refine aA ?_) | (with_reducible refine hK _ ?_;clear hK K) | ((with_reducible refine ai ?_ ?_);(· decide)) | (with_reducible refine ac (h2) ?_))
 ·simp only [if_true]
  refine aC [] Tryz.func167 rfl Tryz.ntmps167 (Nat.le_of_ble_eq_true rfl) (Nat.le_of_ble_eq_true rfl) fun w0 G0 B0 Pr hB0=>?_
  simp only [aJ,aB,List.cons_append,List.nil_append]
  repeat' (first | (with_reducible refine hY _ ?_;clear hY Y) | ((with_reducible first | refine ar rfl (ay fun K' hK'=>aa ?_) | refine hK' _ (ab fun Y hY=>aa ?_) | refine ab fun Y hY=>aa ?_ | refine ae tk0 ec (ab fun Y hY=>aa ?_) | refine aa ?_ | refine aq ?_);(try clear hK' K');(try dsimp only [aop]);try simp only [go_sem,seval,ec,Tryz.results167]) | (with_reducible first | refine ag ?_ | refine aj ?_ | refine am ?_ | refine aF fun K hK=>?_ | refine ax ?_ | refine aZ ?_ | refine aA ?_) | (with_reducible refine hK _ ?_;clear hK K) | ((with_reducible refine ai ?_ ?_);(· decide)) | (with_reducible refine ac (h2) ?_) | (with_reducible refine bg (cE _ _ ?_) ?_;(· (try simp only [List.length_append,List.length_cons,List.length_nil]);omega)))
theorem tT : ∀ (c : PC) (r : List AV) ,(bR c ++ r).getD 0 .u = inA c.kind
 | .mk k e ks,r=>by simp [bR,PC.kind]
theorem uW (a b : PC) : (bR a ++ bR b).getD 3 .u = inA b.kind:=by
 obtain ⟨k,e,ks⟩:=a
 obtain ⟨k',e',ks'⟩:=b
 simp [bR,PC.kind]
theorem DL {c : PC} (h : c.kind = 7) : hi7 c = true:=by simp [hi7,h]
theorem zG {c : PC} (h : c.kind = 8) : hi7 c = true:=by simp [hi7,h]
theorem DK {c : PC} (h : ¬ c.kind = 7) (h' : ¬ c.kind = 8) : hi7 c = false:=by simp [hi7,h,h']
def aH : Nat→List Nat
 | 0=>[0]
 | 1=>[1]
 | 2=>[1,5]
 | 3=>[]
 | 4=>[1,5]
 | 5=>[]
 | 6=>[1,5]
 | 7=>[1]
 | 8=>[1,5]
 | 9=>[1]
 | 10=>[1,5]
 | 11=>[1]
 | 12=>[1]
 | 13=>[1,3]
 | 14=>[1,3,87]
 | 15=>[1]
 | 16=>[1,3,87]
 | 17=>[1]
 | 18=>[1,3,87]
 | 19=>[1]
 | 20=>[1,3]
 | _=>[]
set_option maxRecDepth 100000 in
set_option maxHeartbeats 8000000 in
theorem CN (k : Int) (hk : k = 2∨k = 3∨k = 4∨k = 5) (a b : PE) (ha : TxE a) (hb : TxE b) : AFn Tryz.prog 87 [.agg (bR (.mk k [a,b] []))] [] (bs (aX (tkC (.mk k [a,b] [])))) []:=by
 rw [Fv hk]
 obtain ⟨la,ca⟩:=ha
 obtain ⟨lb,cb⟩:=hb
 have e2 : bY [a,b] = peA a ++ peA b:=by simp [bY]
 obtain ⟨q1,q2,q3⟩:=sS (eZ a) (eZ b)
 have na:=(cQ a).nm3
 have ra:=(cQ a).rn3
 have nb:=(cQ b).nm3
 have rb:=(cQ b).rn3
 simp only [bR,e2,db]
 generalize peA a ++ peA b = KS at *
 generalize peA a = A at *
 generalize peA b = B at *
 generalize aX (tkE a) = TA at *
 generalize aX (tkE b) = TB at *
 clear e2
 rcases hk with rfl | rfl | rfl | rfl
 ·have : opT 2 = [32,61,61,32]:=rfl
  rw [this]
  refine aC [] Tryz.func87 rfl Tryz.ntmps87 (Nat.le_of_ble_eq_true rfl) (Nat.le_of_ble_eq_true rfl) fun w0 G0 B0 Pr hB0=>?_
  simp only [aJ,aB,List.cons_append,List.nil_append]
  repeat' (first | (with_reducible refine hY _ ?_;clear hY Y) | ((with_reducible first | refine ar rfl (ay fun K' hK'=>aa ?_) | refine hK' _ (ab fun Y hY=>aa ?_) | refine ab fun Y hY=>aa ?_ | refine ae tk0 aH (ab fun Y hY=>aa ?_) | refine aa ?_ | refine aq ?_ | refine cX rfl (dx fun K' hK'=>aa ?_) | refine hK' _ _ (ab fun Y hY=>aa ?_));(try clear hK' K');(try dsimp only [aop]);try simp only [go_sem,seval,aH,Tryz.results87,na,ra,nb,rb,q1,q2,q3]) | (with_reducible first | refine ag ?_ | refine aj ?_ | refine am ?_ | refine aF fun K hK=>?_ | refine av ?_ | refine aR ?_ | refine ap ?_ | refine aD ?_ | refine aA ?_ | refine bV ?_ | refine eS fun K hK=>?_) | (with_reducible refine hK _ ?_;clear hK K) | (with_reducible refine hK _ _ ?_ ?_;(· kernel_rfl);clear hK K) | ((with_reducible refine ai ?_ ?_);(· decide)) | (with_reducible refine bU tk0 aH ?_ ?_;(· kernel_rfl)) | (with_reducible refine br ?_ ?_;(· (try and_intros) <;> first | omega | assumption | (simp only [List.length_append,List.length_map,List.length_cons,List.length_nil] <;> omega))) | (with_reducible refine ac (ca) ?_) | (with_reducible refine ac (cb) ?_) | (with_reducible refine bg (cE _ _ ?_) ?_;(· (try simp only [List.length_append,List.length_cons,List.length_nil]);omega)))
 ·have : opT 3 = [32,33,61,32]:=rfl
  rw [this]
  refine aC [] Tryz.func87 rfl Tryz.ntmps87 (Nat.le_of_ble_eq_true rfl) (Nat.le_of_ble_eq_true rfl) fun w0 G0 B0 Pr hB0=>?_
  simp only [aJ,aB,List.cons_append,List.nil_append]
  repeat' (first | (with_reducible refine hY _ ?_;clear hY Y) | ((with_reducible first | refine ar rfl (ay fun K' hK'=>aa ?_) | refine hK' _ (ab fun Y hY=>aa ?_) | refine ab fun Y hY=>aa ?_ | refine ae tk0 aH (ab fun Y hY=>aa ?_) | refine aa ?_ | refine aq ?_ | refine cX rfl (dx fun K' hK'=>aa ?_) | refine hK' _ _ (ab fun Y hY=>aa ?_));(try clear hK' K');(try dsimp only [aop]);try simp only [go_sem,seval,aH,Tryz.results87,na,ra,nb,rb,q1,q2,q3]) | (with_reducible first | refine ag ?_ | refine aj ?_ | refine am ?_ | refine aF fun K hK=>?_ | refine ax ?_ | refine av ?_ | refine aR ?_ | refine ap ?_ | refine aD ?_ | refine aA ?_ | refine bV ?_ | refine eS fun K hK=>?_) | (with_reducible refine hK _ ?_;clear hK K) | (with_reducible refine hK _ _ ?_ ?_;(· kernel_rfl);clear hK K) | ((with_reducible refine ai ?_ ?_);(· decide)) | (with_reducible refine bU tk0 aH ?_ ?_;(· kernel_rfl)) | (with_reducible refine br ?_ ?_;(· (try and_intros) <;> first | omega | assumption | (simp only [List.length_append,List.length_map,List.length_cons,List.length_nil] <;> omega))) | (with_reducible refine ac (ca) ?_) | (with_reducible refine ac (cb) ?_) | (with_reducible refine bg (cE _ _ ?_) ?_;(· (try simp only [List.length_append,List.length_cons,List.length_nil]);omega)))
 ·have : opT 4 = [32,60,32]:=rfl
  rw [this]
  refine aC [] Tryz.func87 rfl Tryz.ntmps87 (Nat.le_of_ble_eq_true rfl) (Nat.le_of_ble_eq_true rfl) fun w0 G0 B0 Pr hB0=>?_
  simp only [aJ,aB,List.cons_append,List.nil_append]
  repeat' (first | (with_reducible refine hY _ ?_;clear hY Y) | ((with_reducible first | refine ar rfl (ay fun K' hK'=>aa ?_) | refine hK' _ (ab fun Y hY=>aa ?_) | refine ab fun Y hY=>aa ?_ | refine ae tk0 aH (ab fun Y hY=>aa ?_) | refine aa ?_ | refine aq ?_ | refine cX rfl (dx fun K' hK'=>aa ?_) | refine hK' _ _ (ab fun Y hY=>aa ?_));(try clear hK' K');(try dsimp only [aop]);try simp only [go_sem,seval,aH,Tryz.results87,na,ra,nb,rb,q1,q2,q3]) | (with_reducible first | refine ag ?_ | refine aj ?_ | refine am ?_ | refine aF fun K hK=>?_ | refine ax ?_ | refine av ?_ | refine aR ?_ | refine ap ?_ | refine aD ?_ | refine aA ?_ | refine bV ?_ | refine eS fun K hK=>?_) | (with_reducible refine hK _ ?_;clear hK K) | (with_reducible refine hK _ _ ?_ ?_;(· kernel_rfl);clear hK K) | ((with_reducible refine ai ?_ ?_);(· decide)) | (with_reducible refine bU tk0 aH ?_ ?_;(· kernel_rfl)) | (with_reducible refine br ?_ ?_;(· (try and_intros) <;> first | omega | assumption | (simp only [List.length_append,List.length_map,List.length_cons,List.length_nil] <;> omega))) | (with_reducible refine ac (ca) ?_) | (with_reducible refine ac (cb) ?_) | (with_reducible refine bg (cE _ _ ?_) ?_;(· (try simp only [List.length_append,List.length_cons,List.length_nil]);omega)))
 ·have : opT 5 = [32,60,61,32]:=rfl
  rw [this]
  refine aC [] Tryz.func87 rfl Tryz.ntmps87 (Nat.le_of_ble_eq_true rfl) (Nat.le_of_ble_eq_true rfl) fun w0 G0 B0 Pr hB0=>?_
  simp only [aJ,aB,List.cons_append,List.nil_append]
  repeat' (first | (with_reducible refine hY _ ?_;clear hY Y) | ((with_reducible first | refine ar rfl (ay fun K' hK'=>aa ?_) | refine hK' _ (ab fun Y hY=>aa ?_) | refine ab fun Y hY=>aa ?_ | refine ae tk0 aH (ab fun Y hY=>aa ?_) | refine aa ?_ | refine aq ?_ | refine cX rfl (dx fun K' hK'=>aa ?_) | refine hK' _ _ (ab fun Y hY=>aa ?_));(try clear hK' K');(try dsimp only [aop]);try simp only [go_sem,seval,aH,Tryz.results87,na,ra,nb,rb,q1,q2,q3]) | (with_reducible first | refine ag ?_ | refine aj ?_ | refine am ?_ | refine aF fun K hK=>?_ | refine ax ?_ | refine av ?_ | refine aR ?_ | refine ap ?_ | refine aD ?_ | refine aA ?_ | refine bV ?_ | refine eS fun K hK=>?_) | (with_reducible refine hK _ ?_;clear hK K) | (with_reducible refine hK _ _ ?_ ?_;(· kernel_rfl);clear hK K) | ((with_reducible refine ai ?_ ?_);(· decide)) | (with_reducible refine bU tk0 aH ?_ ?_;(· kernel_rfl)) | (with_reducible refine br ?_ ?_;(· (try and_intros) <;> first | omega | assumption | (simp only [List.length_append,List.length_map,List.length_cons,List.length_nil] <;> omega))) | (with_reducible refine ac (ca) ?_) | (with_reducible refine ac (cb) ?_) | (with_reducible refine bg (cE _ _ ?_) ?_;(· (try simp only [List.length_append,List.length_cons,List.length_nil]);omega)))
set_option maxRecDepth 100000 in
set_option maxHeartbeats 8000000 in
theorem AM (k : Int) (hk : k = 0∨k = 1) : AFn Tryz.prog 87 [.agg (bR (.mk k [] []))] [] (bs (aX (tkC (.mk k [] [])))) []:=by
 simp only [bR,bY,db]
 rcases hk with rfl | rfl
 ·have : aX (tkC (.mk 0 [] [])) = [116,114,117,101]:=rfl
  rw [this]
  refine aC [] Tryz.func87 rfl Tryz.ntmps87 (Nat.le_of_ble_eq_true rfl) (Nat.le_of_ble_eq_true rfl) fun w0 G0 B0 Pr hB0=>?_
  simp only [aJ,aB,List.cons_append,List.nil_append]
  repeat' (first | (with_reducible refine hY _ ?_;clear hY Y) | ((with_reducible first | refine ar rfl (ay fun K' hK'=>aa ?_) | refine hK' _ (ab fun Y hY=>aa ?_) | refine ab fun Y hY=>aa ?_ | refine ae tk0 aH (ab fun Y hY=>aa ?_) | refine aa ?_ | refine aq ?_);(try clear hK' K');(try dsimp only [aop]);try simp only [go_sem,seval,aH,Tryz.results87]) | (with_reducible first | refine ag ?_ | refine aj ?_ | refine am ?_ | refine aF fun K hK=>?_ | refine ax ?_ | refine aZ ?_ | refine bh ?_ | refine ap ?_ | refine aA ?_) | (with_reducible refine hK _ ?_;clear hK K) | ((with_reducible refine ai ?_ ?_);(· decide)))
 ·have : aX (tkC (.mk 1 [] [])) = [102,97,108,115,101]:=rfl
  rw [this]
  refine aC [] Tryz.func87 rfl Tryz.ntmps87 (Nat.le_of_ble_eq_true rfl) (Nat.le_of_ble_eq_true rfl) fun w0 G0 B0 Pr hB0=>?_
  simp only [aJ,aB,List.cons_append,List.nil_append]
  repeat' (first | (with_reducible refine hY _ ?_;clear hY Y) | ((with_reducible first | refine ar rfl (ay fun K' hK'=>aa ?_) | refine hK' _ (ab fun Y hY=>aa ?_) | refine ab fun Y hY=>aa ?_ | refine ae tk0 aH (ab fun Y hY=>aa ?_) | refine aa ?_ | refine aq ?_);(try clear hK' K');(try dsimp only [aop]);try simp only [go_sem,seval,aH,Tryz.results87]) | (with_reducible first | refine ag ?_ | refine aj ?_ | refine am ?_ | refine aF fun K hK=>?_ | refine ax ?_ | refine av ?_ | refine aZ ?_ | refine bh ?_ | refine ap ?_ | refine aA ?_) | (with_reducible refine hK _ ?_;clear hK K) | ((with_reducible refine ai ?_ ?_);(· decide)))
set_option maxRecDepth 100000 in
set_option maxHeartbeats 8000000 in
theorem CK (a : PC) (hx : TxX a) : AFn Tryz.prog 87 [.agg (bR (.mk 6 [] [a]))] [] (bs (aX (tkC (.mk 6 [] [a])))) []:=by
 rw [Fs]
 have lx:=hx.len (hi7 a)
 have cx:=hx.tells (hi7 a)
 have e2 : db [a] = bR a:=by simp [db]
 have na:=(dv a).nm3
 have ra:=(dv a).rn3
 have q1:=eR a
 have q2 : (bR a).take 3 = bR a:=List.take_of_length_le (by omega)
 have q3:=tT a []
 rw [List.append_nil] at q3
 have t7:=@DL a
 have t8:=@zG a
 have tf:=@DK a
 simp only [bR,e2,bY]
 generalize a.kind = ak at *
 generalize hi7 a = h7 at *
 generalize aX (fT h7 (tkC a)) = TA at *
 generalize bR a = A at *
 clear hx e2
 by_cases h7k : ak = 7
 ·have k7 : (ak = 7) = True:=eq_true h7k
  rw [t7 h7k] at cx
  refine aC [] Tryz.func87 rfl Tryz.ntmps87 (Nat.le_of_ble_eq_true rfl) (Nat.le_of_ble_eq_true rfl) fun w0 G0 B0 Pr hB0=>?_
  simp only [aJ,aB,List.cons_append,List.nil_append]
  repeat' (first | (with_reducible refine hY _ ?_;clear hY Y) | ((with_reducible first | refine ar rfl (ay fun K' hK'=>aa ?_) | refine hK' _ (ab fun Y hY=>aa ?_) | refine ab fun Y hY=>aa ?_ | refine ae tk0 aH (ab fun Y hY=>aa ?_) | refine aa ?_ | refine aq ?_ | refine cX rfl (dx fun K' hK'=>aa ?_) | refine hK' _ _ (ab fun Y hY=>aa ?_) | refine mF rfl (ab fun Y hY=>aa ?_));(try clear hK' K');(try dsimp only [aop]);try simp only [go_sem,seval,aH,Tryz.results87,na,ra,q1,q2,q3,k7]) | (with_reducible first | refine ag ?_ | refine aW rfl ?_ | refine dc ?_ ?_ | refine aj ?_ | refine am ?_ | refine aF fun K hK=>?_ | refine ax ?_ | refine av ?_ | refine aZ ?_ | refine bh ?_ | refine ap ?_ | refine aA ?_ | refine bV ?_ | refine eS fun K hK=>?_) | (with_reducible refine hK _ ?_;clear hK K) | (with_reducible refine hK _ _ ?_ ?_;(· kernel_rfl);clear hK K) | ((with_reducible first | refine aI ?_ ?_ | refine ai ?_ ?_);(· decide)) | (with_reducible refine bU tk0 aH ?_ ?_;(· kernel_rfl)) | (with_reducible refine br ?_ ?_;(· (try and_intros) <;> first | omega | assumption | (simp only [List.length_append,List.length_map,List.length_cons,List.length_nil] <;> omega))) | (with_reducible refine ac (cx) ?_) | (with_reducible refine bg (cE _ _ ?_) ?_;(· (try simp only [List.length_append,List.length_cons,List.length_nil]);omega)))
 by_cases h8k : ak = 8
 ·have k7 : (ak = 7) = False:=eq_false h7k
  have k8 : (ak = 8) = True:=eq_true h8k
  rw [t8 h8k] at cx
  refine aC [] Tryz.func87 rfl Tryz.ntmps87 (Nat.le_of_ble_eq_true rfl) (Nat.le_of_ble_eq_true rfl) fun w0 G0 B0 Pr hB0=>?_
  simp only [aJ,aB,List.cons_append,List.nil_append]
  repeat' (first | (with_reducible refine hY _ ?_;clear hY Y) | ((with_reducible first | refine ar rfl (ay fun K' hK'=>aa ?_) | refine hK' _ (ab fun Y hY=>aa ?_) | refine ab fun Y hY=>aa ?_ | refine ae tk0 aH (ab fun Y hY=>aa ?_) | refine aa ?_ | refine aq ?_ | refine cX rfl (dx fun K' hK'=>aa ?_) | refine hK' _ _ (ab fun Y hY=>aa ?_) | refine mF rfl (ab fun Y hY=>aa ?_) | refine dx fun K' hK'=>aa ?_);(try clear hK' K');(try dsimp only [aop]);try simp only [go_sem,seval,aH,Tryz.results87,na,ra,q1,q2,q3,k7,k8]) | (with_reducible first | refine ag ?_ | refine aK ?_ | refine aj ?_ | refine am ?_ | refine aF fun K hK=>?_ | refine ax ?_ | refine av ?_ | refine aZ ?_ | refine bh ?_ | refine ap ?_ | refine aA ?_ | refine bV ?_ | refine eS fun K hK=>?_) | (with_reducible refine hK _ ?_;clear hK K) | (with_reducible refine hK _ _ ?_ ?_;(· kernel_rfl);clear hK K) | ((with_reducible first | refine aI ?_ ?_ | refine ai ?_ ?_);(· decide)) | (with_reducible refine bU tk0 aH ?_ ?_;(· kernel_rfl)) | (with_reducible refine br ?_ ?_;(· (try and_intros) <;> first | omega | assumption | (simp only [List.length_append,List.length_map,List.length_cons,List.length_nil] <;> omega))) | (with_reducible refine ac (cx) ?_) | (with_reducible refine bg (cE _ _ ?_) ?_;(· (try simp only [List.length_append,List.length_cons,List.length_nil]);omega)))
 ·have k7 : (ak = 7) = False:=eq_false h7k
  have k8 : (ak = 8) = False:=eq_false h8k
  rw [tf h7k h8k] at cx
  refine aC [] Tryz.func87 rfl Tryz.ntmps87 (Nat.le_of_ble_eq_true rfl) (Nat.le_of_ble_eq_true rfl) fun w0 G0 B0 Pr hB0=>?_
  simp only [aJ,aB,List.cons_append,List.nil_append]
  repeat' (first | (with_reducible refine hY _ ?_;clear hY Y) | ((with_reducible first | refine ar rfl (ay fun K' hK'=>aa ?_) | refine hK' _ (ab fun Y hY=>aa ?_) | refine ab fun Y hY=>aa ?_ | refine ae tk0 aH (ab fun Y hY=>aa ?_) | refine aa ?_ | refine aq ?_ | refine cX rfl (dx fun K' hK'=>aa ?_) | refine hK' _ _ (ab fun Y hY=>aa ?_) | refine mF rfl (ab fun Y hY=>aa ?_) | refine dx fun K' hK'=>aa ?_);(try clear hK' K');(try dsimp only [aop]);try simp only [go_sem,seval,aH,Tryz.results87,na,ra,q1,q2,q3,k7,k8]) | (with_reducible first | refine ag ?_ | refine aK ?_ | refine aj ?_ | refine am ?_ | refine aF fun K hK=>?_ | refine ax ?_ | refine av ?_ | refine aZ ?_ | refine bh ?_ | refine ap ?_ | refine aA ?_ | refine bV ?_ | refine eS fun K hK=>?_) | (with_reducible refine hK _ ?_;clear hK K) | (with_reducible refine hK _ _ ?_ ?_;(· kernel_rfl);clear hK K) | ((with_reducible first | refine aI ?_ ?_ | refine ai ?_ ?_);(· decide)) | (with_reducible refine bU tk0 aH ?_ ?_;(· kernel_rfl)) | (with_reducible refine br ?_ ?_;(· (try and_intros) <;> first | omega | assumption | (simp only [List.length_append,List.length_map,List.length_cons,List.length_nil] <;> omega))) | (with_reducible refine ac (cx) ?_) | (with_reducible refine bg (cE _ _ ?_) ?_;(· (try simp only [List.length_append,List.length_cons,List.length_nil]);omega)))
set_option maxRecDepth 100000 in
set_option maxHeartbeats 8000000 in
theorem CL (a b : PC) (ha : TxX a) (hb : TxX b) : AFn Tryz.prog 87 [.agg (bR (.mk 7 [] [a,b]))] [] (bs (aX (tkC (.mk 7 [] [a,b])))) []:=by
 rw [Ft]
 have la:=ha.len (hi8 a)
 have ca:=ha.tells (hi8 a)
 have lb:=hb.len (hi7 b)
 have cb:=hb.tells (hi7 b)
 have e2 : db [a,b] = bR a ++ bR b:=by simp [db]
 obtain ⟨q1,q2,q3⟩:=sS (eR a) (eR b)
 have na:=(dv a).nm3
 have ra:=(dv a).rn3
 have nb:=(dv b).nm3
 have rb:=(dv b).rn3
 have q4:=tT a (bR b)
 have q5:=uW a b
 have t7:=@DL b
 have t8:=@zG b
 have tf:=@DK b
 simp only [bR,e2,bY]
 generalize bR a ++ bR b = KS at *
 generalize hi7 b = h7 at *
 generalize aX (fT h7 (tkC b)) = TB at *
 unfold hi8 at *
 generalize aX (fT (decide (a.kind = 8)) (tkC a)) = TA at *
 generalize a.kind = ak at *
 generalize b.kind = bk at *
 generalize bR a = A at *
 generalize bR b = B at *
 clear ha hb e2
 by_cases h7k : bk = 7
 ·have k7 : (bk = 7) = True:=eq_true h7k
  rw [t7 h7k] at cb
  refine aC [] Tryz.func87 rfl Tryz.ntmps87 (Nat.le_of_ble_eq_true rfl) (Nat.le_of_ble_eq_true rfl) fun w0 G0 B0 Pr hB0=>?_
  simp only [aJ,aB,List.cons_append,List.nil_append]
  repeat' (first | (with_reducible refine hY _ ?_;clear hY Y) | ((with_reducible first | refine ar rfl (ay fun K' hK'=>aa ?_) | refine hK' _ (ab fun Y hY=>aa ?_) | refine ab fun Y hY=>aa ?_ | refine ae tk0 aH (ab fun Y hY=>aa ?_) | refine aa ?_ | refine aq ?_ | refine cX rfl (dx fun K' hK'=>aa ?_) | refine hK' _ _ (ab fun Y hY=>aa ?_) | refine mF rfl (ab fun Y hY=>aa ?_));(try clear hK' K');(try dsimp only [aop]);try simp only [go_sem,seval,aH,Tryz.results87,na,ra,nb,rb,q1,q2,q3,q4,q5,k7]) | (with_reducible first | refine ag ?_ | refine aW rfl ?_ | refine dc ?_ ?_ | refine aj ?_ | refine am ?_ | refine aF fun K hK=>?_ | refine ax ?_ | refine av ?_ | refine aZ ?_ | refine bh ?_ | refine ap ?_ | refine aA ?_ | refine bV ?_ | refine eS fun K hK=>?_) | (with_reducible refine hK _ ?_;clear hK K) | (with_reducible refine hK _ _ ?_ ?_;(· kernel_rfl);clear hK K) | ((with_reducible first | refine aI ?_ ?_ | refine ai ?_ ?_);(· decide)) | (with_reducible refine bU tk0 aH ?_ ?_;(· kernel_rfl)) | (with_reducible refine br ?_ ?_;(· (try and_intros) <;> first | omega | assumption | (simp only [List.length_append,List.length_map,List.length_cons,List.length_nil] <;> omega))) | (with_reducible refine ac (ca) ?_) | (with_reducible refine ac (cb) ?_) | (with_reducible refine bg (cE _ _ ?_) ?_;(· (try simp only [List.length_append,List.length_cons,List.length_nil]);omega)))
 by_cases h8k : bk = 8
 ·have k7 : (bk = 7) = False:=eq_false h7k
  have k8 : (bk = 8) = True:=eq_true h8k
  rw [t8 h8k] at cb
  refine aC [] Tryz.func87 rfl Tryz.ntmps87 (Nat.le_of_ble_eq_true rfl) (Nat.le_of_ble_eq_true rfl) fun w0 G0 B0 Pr hB0=>?_
  simp only [aJ,aB,List.cons_append,List.nil_append]
  repeat' (first | (with_reducible refine hY _ ?_;clear hY Y) | ((with_reducible first | refine ar rfl (ay fun K' hK'=>aa ?_) | refine hK' _ (ab fun Y hY=>aa ?_) | refine ab fun Y hY=>aa ?_ | refine ae tk0 aH (ab fun Y hY=>aa ?_) | refine aa ?_ | refine aq ?_ | refine cX rfl (dx fun K' hK'=>aa ?_) | refine hK' _ _ (ab fun Y hY=>aa ?_) | refine mF rfl (ab fun Y hY=>aa ?_) | refine dx fun K' hK'=>aa ?_);(try clear hK' K');(try dsimp only [aop]);try simp only [go_sem,seval,aH,Tryz.results87,na,ra,nb,rb,q1,q2,q3,q4,q5,k7,k8]) | (with_reducible first | refine ag ?_ | refine aK ?_ | refine aj ?_ | refine am ?_ | refine aF fun K hK=>?_ | refine ax ?_ | refine av ?_ | refine aZ ?_ | refine bh ?_ | refine ap ?_ | refine aA ?_ | refine bV ?_ | refine eS fun K hK=>?_) | (with_reducible refine hK _ ?_;clear hK K) | (with_reducible refine hK _ _ ?_ ?_;(· kernel_rfl);clear hK K) | ((with_reducible first | refine aI ?_ ?_ | refine ai ?_ ?_);(· decide)) | (with_reducible refine bU tk0 aH ?_ ?_;(· kernel_rfl)) | (with_reducible refine br ?_ ?_;(· (try and_intros) <;> first | omega | assumption | (simp only [List.length_append,List.length_map,List.length_cons,List.length_nil] <;> omega))) | (with_reducible refine ac (ca) ?_) | (with_reducible refine ac (cb) ?_) | (with_reducible refine bg (cE _ _ ?_) ?_;(· (try simp only [List.length_append,List.length_cons,List.length_nil]);omega)))
 ·have k7 : (bk = 7) = False:=eq_false h7k
  have k8 : (bk = 8) = False:=eq_false h8k
  rw [tf h7k h8k] at cb
  refine aC [] Tryz.func87 rfl Tryz.ntmps87 (Nat.le_of_ble_eq_true rfl) (Nat.le_of_ble_eq_true rfl) fun w0 G0 B0 Pr hB0=>?_
  simp only [aJ,aB,List.cons_append,List.nil_append]
  repeat' (first | (with_reducible refine hY _ ?_;clear hY Y) | ((with_reducible first | refine ar rfl (ay fun K' hK'=>aa ?_) | refine hK' _ (ab fun Y hY=>aa ?_) | refine ab fun Y hY=>aa ?_ | refine ae tk0 aH (ab fun Y hY=>aa ?_) | refine aa ?_ | refine aq ?_ | refine cX rfl (dx fun K' hK'=>aa ?_) | refine hK' _ _ (ab fun Y hY=>aa ?_) | refine mF rfl (ab fun Y hY=>aa ?_) | refine dx fun K' hK'=>aa ?_);(try clear hK' K');(try dsimp only [aop]);try simp only [go_sem,seval,aH,Tryz.results87,na,ra,nb,rb,q1,q2,q3,q4,q5,k7,k8]) | (with_reducible first | refine ag ?_ | refine aK ?_ | refine aj ?_ | refine am ?_ | refine aF fun K hK=>?_ | refine ax ?_ | refine av ?_ | refine aZ ?_ | refine bh ?_ | refine ap ?_ | refine aA ?_ | refine bV ?_ | refine eS fun K hK=>?_) | (with_reducible refine hK _ ?_;clear hK K) | (with_reducible refine hK _ _ ?_ ?_;(· kernel_rfl);clear hK K) | ((with_reducible first | refine aI ?_ ?_ | refine ai ?_ ?_);(· decide)) | (with_reducible refine bU tk0 aH ?_ ?_;(· kernel_rfl)) | (with_reducible refine br ?_ ?_;(· (try and_intros) <;> first | omega | assumption | (simp only [List.length_append,List.length_map,List.length_cons,List.length_nil] <;> omega))) | (with_reducible refine ac (ca) ?_) | (with_reducible refine ac (cb) ?_) | (with_reducible refine bg (cE _ _ ?_) ?_;(· (try simp only [List.length_append,List.length_cons,List.length_nil]);omega)))
set_option maxRecDepth 100000 in
set_option maxHeartbeats 8000000 in
theorem CM (a b : PC) (ha : TxC a) (hb : TxX b) : AFn Tryz.prog 87 [.agg (bR (.mk 8 [] [a,b]))] [] (bs (aX (tkC (.mk 8 [] [a,b])))) []:=by
 rw [Fu]
 have la:=ha.len
 have ca:=ha.tells
 have lb:=hb.len (hi8 b)
 have cb:=hb.tells (hi8 b)
 have e2 : db [a,b] = bR a ++ bR b:=by simp [db]
 obtain ⟨q1,q2,q3⟩:=sS (eR a) (eR b)
 have na:=(dv a).nm3
 have ra:=(dv a).rn3
 have nb:=(dv b).nm3
 have rb:=(dv b).rn3
 have q4:=tT a (bR b)
 have q5:=uW a b
 simp only [bR,e2,bY]
 generalize bR a ++ bR b = KS at *
 unfold hi8 at *
 generalize aX (fT (decide (b.kind = 8)) (tkC b)) = TB at *
 generalize aX (tkC a) = TA at *
 generalize a.kind = ak at *
 generalize b.kind = bk at *
 generalize bR a = A at *
 generalize bR b = B at *
 clear ha hb e2
 refine aC [] Tryz.func87 rfl Tryz.ntmps87 (Nat.le_of_ble_eq_true rfl) (Nat.le_of_ble_eq_true rfl) fun w0 G0 B0 Pr hB0=>?_
 simp only [aJ,aB,List.cons_append,List.nil_append]
 repeat' (first | (with_reducible refine hY _ ?_;clear hY Y) | ((with_reducible first | refine ar rfl (ay fun K' hK'=>aa ?_) | refine hK' _ (ab fun Y hY=>aa ?_) | refine ab fun Y hY=>aa ?_ | refine ae tk0 aH (ab fun Y hY=>aa ?_) | refine aa ?_ | refine aq ?_ | refine cX rfl (dx fun K' hK'=>aa ?_) | refine hK' _ _ (ab fun Y hY=>aa ?_));(try clear hK' K');(try dsimp only [aop]);try simp only [go_sem,seval,aH,Tryz.results87,na,ra,nb,rb,q1,q2,q3,q4,q5]) | (with_reducible first | refine ag ?_ | refine aj ?_ | refine am ?_ | refine aF fun K hK=>?_ | refine ax ?_ | refine av ?_ | refine aZ ?_ | refine bh ?_ | refine ap ?_ | refine aA ?_ | refine bV ?_ | refine eS fun K hK=>?_) | (with_reducible refine hK _ ?_;clear hK K) | (with_reducible refine hK _ _ ?_ ?_;(· kernel_rfl);clear hK K) | ((with_reducible refine ai ?_ ?_);(· decide)) | (with_reducible refine bU tk0 aH ?_ ?_;(· kernel_rfl)) | (with_reducible refine br ?_ ?_;(· (try and_intros) <;> first | omega | assumption | (simp only [List.length_append,List.length_map,List.length_cons,List.length_nil] <;> omega))) | (with_reducible refine ac (ca) ?_) | (with_reducible refine ac (cb) ?_) | (with_reducible refine bg (cE _ _ ?_) ?_;(· (try simp only [List.length_append,List.length_cons,List.length_nil]);omega)))
theorem CO (k : Int) (e : List PE) (ks : List PC) (hs : seC (.mk k e ks) = true) (he : ∀ a ∈ e,TxE a) (hk : ∀ a ∈ ks,TxC a∧TxX a) : AFn Tryz.prog 87 [.agg (bR (.mk k e ks))] [] (bs (aX (tkC (.mk k e ks)))) []:=by
 rw [seC] at hs
 simp only [Bool.and_eq_true] at hs
 obtain ⟨hs,_,_⟩:=hs
 unfold jC at hs
 by_cases k01 : k = 0∨k = 1
 ·rw [if_pos k01] at hs
  simp only [Bool.and_eq_true,decide_eq_true_eq] at hs
  obtain rfl:=List.eq_nil_of_length_eq_zero hs.1
  obtain rfl:=List.eq_nil_of_length_eq_zero hs.2
  exact AM k k01
 rw [if_neg k01] at hs
 by_cases k25 : k = 2∨k = 3∨k = 4∨k = 5
 ·rw [if_pos k25] at hs
  simp only [Bool.and_eq_true,decide_eq_true_eq] at hs
  obtain rfl:=List.eq_nil_of_length_eq_zero hs.2
  obtain ⟨a,b,rfl⟩ : ∃ a b,e = [a,b]:=by
   match e,hs.1 with
   | [a,b],_=>exact ⟨a,b,rfl⟩
  exact CN k k25 a b (he a (by simp)) (he b (by simp))
 rw [if_neg k25] at hs
 by_cases k6 : k = 6
 ·subst k6
  simp only [if_true,Bool.and_eq_true,decide_eq_true_eq] at hs
  obtain rfl:=List.eq_nil_of_length_eq_zero hs.1
  obtain ⟨a,rfl⟩ : ∃ a,ks = [a]:=by
   match ks,hs.2 with
   | [a],_=>exact ⟨a,rfl⟩
  exact CK a (hk a (by simp)).2
 rw [if_neg k6] at hs
 by_cases k78 : k = 7∨k = 8
 ·rw [if_pos k78] at hs
  simp only [Bool.and_eq_true,decide_eq_true_eq] at hs
  obtain rfl:=List.eq_nil_of_length_eq_zero hs.1
  obtain ⟨a,b,rfl⟩ : ∃ a b,ks = [a,b]:=by
   match ks,hs.2 with
   | [a,b],_=>exact ⟨a,b,rfl⟩
  rcases k78 with rfl | rfl
  ·exact CL a b (hk a (by simp)).2 (hk b (by simp)).2
  ·exact CM a b (hk a (by simp)).1 (hk b (by simp)).2
 ·rw [if_neg k78] at hs;cases hs
mutual
theorem om : ∀ e,seC e = true→nC e≤1000000000→TxC e∧TxX e
 | .mk k e ks,hs,hn=>by
  have hl:=mX (.mk k e ks) hs
  have h1:=gk (tkC (.mk k e ks))
  have h2:=fun b=>gk (fT b (tkC (.mk k e ks)))
  have h3:=fun b=>lz b (tkC (.mk k e ks))
  have hs2:=hs
  rw [seC] at hs2
  simp only [Bool.and_eq_true] at hs2
  have hn2:=hn
  rw [nC] at hn2
  have h4 : TxC (.mk k e ks):=⟨by omega,CO k e ks hs (fun a ha=>(ku e hs2.2.1 (by omega) a ha).1) (sR ks hs2.2.2 (by omega))⟩
  exact ⟨h4,yS _ h4 fun b=>by have:=h2 b;have:=h3 b;omega⟩
theorem sR : ∀ l,lO l = true→nCs l≤1000000000→∀ a ∈ l,TxC a∧TxX a
 | [],_,_=>fun e he=>absurd he List.not_mem_nil
 | e :: r,hs,hn=>fun a ha=>by
  rw [lO,Bool.and_eq_true] at hs
  rw [nCs] at hn
  exact (List.mem_cons.1 ha).elim (fun q=>q ▸ om e hs.1 (by omega)) (sR r hs.2 (by omega) a)
end
end Go.Proofs.YtkjnkkmokojnpaaGreatDoor
