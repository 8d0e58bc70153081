/- The parser in K: products, expressions. The parser in K: lists of expressions, conditions. The parser in K: one condition. The parser, as functions of its state: assertions, statements, programs. No program is in sight, but for the trees. The parser in K: places, assertions. -/
import Derived.Test.YtkjnkkmokojnpaaGreatDoorZ19
namespace Go.Proofs.YtkjnkkmokojnpaaGreatDoor
set_option linter.unusedSimpArgs false
set_option linter.unusedVariables false
open Go.RowKit
theorem vT {s : PS} (h : s.kind 3 = true) : (if s.times then s.enter else s).number.2.mu < s.mu:=by
 have h0 : 0 < s.mu:=by
  obtain ⟨h1,t,r,h2,_⟩:=jn h
  have:=tN h1 h2;omega
 split
 ·by_cases he : s.enter.err = none
  ·have hk : s.enter.kind 3 = true:=by
    unfold PS.enter at he ⊢
    split at he
    ·unfold PS.fail at he
     rw [(jn h).1] at he;cases he
    ·rename_i hd;rw [if_neg hd];exact h
   have:=mL hk
   have h2:=nN s
   unfold PS.number;simp only;omega
  ·have hz : s.enter.mu = 0:=by
    unfold PS.mu
    cases h4 : s.enter.err with
    | none=>exact absurd h4 he
    | some x=>rfl
   have:=mb s.enter
   omega
 ·exact mL h
def cF : Nat→List Nat
 | 0=>[0,1]
 | 1=>[0,1,4]
 | 2=>[0,1,4,5]
 | 3=>[0,1,4,5]
 | 4=>[0,1,4,5]
 | 5=>[0,4,5,6]
 | 6=>[4,6]
 | 7=>[0,4,6]
 | 8=>[0,4,6]
 | 9=>[0,4,6,7]
 | 10=>[4,6,7]
 | _=>[]
set_option maxRecDepth 100000 in
set_option maxHeartbeats 4000000 in
theorem xQ {B : Nat} {g : PS→Ex × PS} (hg : ExK 247 B g) (sign : Int) (s : PS) (hs : s.mu < B + 1) (hk : s.kind 3 = true) :
  AFn Tryz.prog 262 [.loc 20000 0,inA sign] [pA s] (.agg (exA (jH g sign s).1)) [pA (jH g sign s).2]:=by
 have hlt:=vT hk
 obtain ⟨he,t,r,hl,_⟩:=jn hk
 have h1:=wQ s
 unfold jH
 simp only
 by_cases ht : s.times = true
 ·simp only [ht,if_true] at hlt ⊢
  have h2:=qW s.enter
  have h3:=sv s.enter.number.2 [[42]] .full (by simp)
  simp only [List.map_cons,List.map_nil,List.length_cons,List.length_nil] at h3
  have hm:=da [[42]] s.enter.number.2
  have h4:=hg (s.enter.number.2.due [[42]]) (by omega)
  generalize s.enter = s1 at *
  generalize s1.number = q1 at *
  generalize q1.2.due [[42]] = s3 at *
  have h5:=kM (g s3).2
  generalize g s3 = q4 at *
  obtain ⟨⟨k4,n4,x4,ks4⟩,s4⟩:=q4
  simp only [exA] at h4 h5 ⊢
  clear hlt hm hs hk
  obtain ⟨l,e0,d,er,ok,sh⟩:=s
  simp only at he hl
  subst he
  subst hl
  unfold PS.times at ht
  simp only at ht
  split at ht
  ·rename_i t0 t2 r2 heq
   obtain ⟨rfl,rfl⟩:=List.cons.inj heq
   have hlr : ((1 : Int) < (r2.length : Int) + 1 + 1) = True:=eq_true (by omega)
   have hlr1 : ((1 : Int) < (r2.length : Int) + 2) = True:=eq_true (by omega)
   obtain ⟨k2,a2,x2⟩:=t2
   simp only [Bool.and_eq_true,beq_iff_eq] at ht
   obtain ⟨rfl,rfl⟩:=ht
   simp only [pA,eW,go_sem,seval] at h1
   refine aC [] Tryz.func262 rfl Tryz.ntmps262 (Nat.le_of_ble_eq_true rfl) (Nat.le_of_ble_eq_true rfl) fun w0 G0 B0 Pr hB0=>?_
   simp only [aJ,aB,List.cons_append,List.nil_append,pA]
   repeat' (first | (with_reducible refine hY _ ?_;clear hY Y) | ((with_reducible first | refine ar rfl (ay fun K' hK'=>aa ?_) | refine hK' _ (ab fun Y hY=>aa ?_) | refine ba rfl (ab fun Y hY=>aa ?_) | refine ab fun Y hY=>aa ?_ | refine ay fun K' hK'=>aa ?_ | refine ae tk0 cF (ab fun Y hY=>aa ?_) | refine aa ?_ | refine aq ?_);(try clear hK' K');(try dsimp only [aop]);try simp only [go_sem,seval,cF,Tryz.results262,hlr,hlr1,eW,beq_self_eq_true]) | (with_reducible first | refine ag ?_ | refine aK ?_ | refine aj ?_ | refine am ?_ | refine aF fun K hK=>?_ | refine ax ?_ | refine av ?_ | refine aD ?_ | refine aA ?_) | (with_reducible refine hK _ ?_;clear hK K) | ((with_reducible first | refine aI ?_ ?_ | refine ai ?_ ?_);(· decide)) | ((with_reducible refine ci (fun hc=>?_) (fun hc=>?_)) <;> (try simp only [decide_eq_true_eq,decide_eq_false_iff_not,Bool.not_true,Bool.not_false,Bool.not_eq_true',Bool.not_eq_false'] at hc) <;> (try (exfalso;omega))) | (with_reducible refine br ?_ ?_;(· (try and_intros) <;> first | omega | assumption | (simp only [List.length_append,List.length_map,List.length_cons,List.length_nil] <;> omega))) | (with_reducible refine ac (h1) ?_) | (with_reducible refine ac (h2) ?_) | (with_reducible refine ac (h3) ?_) | (with_reducible refine ac (h4) ?_) | (with_reducible refine ac (h5) ?_) | (with_reducible refine bg (bN _) ?_))
   all_goals first | rfl | exact ⟨rfl,rfl⟩
  ·cases ht
 ·simp only [ht] at hlt ⊢
  have h2:=qW s
  simp only [Bool.false_eq_true,if_false] at hlt ⊢
  generalize s.number = q1 at *
  clear hlt h1 hk
  obtain ⟨l,e0,d,er,ok,sh⟩:=s
  simp only at he hl
  subst he
  subst hl
  simp only [pA,eW,go_sem,seval] at h2
  cases r with
  | nil =>
   simp only [go_sem,seval] at h2
   refine aC [] Tryz.func262 rfl Tryz.ntmps262 (Nat.le_of_ble_eq_true rfl) (Nat.le_of_ble_eq_true rfl) fun w0 G0 B0 Pr hB0=>?_
   simp only [aJ,aB,List.cons_append,List.nil_append,pA]
   repeat' (first | (with_reducible refine hY _ ?_;clear hY Y) | ((with_reducible first | refine ar rfl (ay fun K' hK'=>aa ?_) | refine hK' _ (ab fun Y hY=>aa ?_) | refine ba rfl (ab fun Y hY=>aa ?_) | refine ab fun Y hY=>aa ?_ | refine ae tk0 cF (ab fun Y hY=>aa ?_) | refine aa ?_ | refine aq ?_);(try clear hK' K');(try dsimp only [aop]);try simp only [go_sem,seval,cF,Tryz.results262,eW]) | (with_reducible first | refine ag ?_ | refine aW rfl ?_ | refine dc ?_ ?_ | refine aj ?_ | refine am ?_ | refine aF fun K hK=>?_ | refine ax ?_ | refine av ?_ | refine aZ ?_ | refine aD ?_ | refine aA ?_) | (with_reducible refine hK _ ?_;clear hK K) | ((with_reducible first | refine aI ?_ ?_ | refine ai ?_ ?_);(· decide)) | (with_reducible refine ac (h2) ?_))
   all_goals first | rfl | exact ⟨rfl,rfl⟩
  | cons t2 r2 =>
   simp only [go_sem,seval] at h2
   have hlr : ((1 : Int) < (r2.length : Int) + 1 + 1) = True:=eq_true (by omega)
   have hlr1 : ((1 : Int) < (r2.length : Int) + 2) = True:=eq_true (by omega)
   obtain ⟨k2,a2,x2⟩:=t2
   unfold PS.times at ht
   simp only [Bool.and_eq_true,beq_iff_eq] at ht
   by_cases hk4 : k2 = 4
   ·subst hk4
    have hx : (x2 == [42]) = false:=by simpa using ht
    refine aC [] Tryz.func262 rfl Tryz.ntmps262 (Nat.le_of_ble_eq_true rfl) (Nat.le_of_ble_eq_true rfl) fun w0 G0 B0 Pr hB0=>?_
    simp only [aJ,aB,List.cons_append,List.nil_append,pA]
    repeat' (first | (with_reducible refine hY _ ?_;clear hY Y) | ((with_reducible first | refine ar rfl (ay fun K' hK'=>aa ?_) | refine hK' _ (ab fun Y hY=>aa ?_) | refine ba rfl (ab fun Y hY=>aa ?_) | refine ab fun Y hY=>aa ?_ | refine ay fun K' hK'=>aa ?_ | refine ae tk0 cF (ab fun Y hY=>aa ?_) | refine aa ?_ | refine aq ?_);(try clear hK' K');(try dsimp only [aop]);try simp only [go_sem,seval,cF,Tryz.results262,hlr,hlr1,eW,hx]) | (with_reducible first | refine ag ?_ | refine aK ?_ | refine aj ?_ | refine am ?_ | refine aF fun K hK=>?_ | refine ax ?_ | refine av ?_ | refine aZ ?_ | refine aD ?_ | refine aA ?_) | (with_reducible refine hK _ ?_;clear hK K) | ((with_reducible first | refine aI ?_ ?_ | refine ai ?_ ?_);(· decide)) | ((with_reducible refine ci (fun hc=>?_) (fun hc=>?_)) <;> (try simp only [decide_eq_true_eq,decide_eq_false_iff_not,Bool.not_true,Bool.not_false,Bool.not_eq_true',Bool.not_eq_false'] at hc) <;> (try (exfalso;omega))) | (with_reducible refine br ?_ ?_;(· (try and_intros) <;> first | omega | assumption | (simp only [List.length_append,List.length_map,List.length_cons,List.length_nil] <;> omega))) | (with_reducible refine ac (h2) ?_) | (with_reducible refine bg (bN _) ?_))
    all_goals first | rfl | exact ⟨rfl,rfl⟩
   ·have hk4' : ((k2 : Int) = 4) = False:=eq_false (by omega)
    refine aC [] Tryz.func262 rfl Tryz.ntmps262 (Nat.le_of_ble_eq_true rfl) (Nat.le_of_ble_eq_true rfl) fun w0 G0 B0 Pr hB0=>?_
    simp only [aJ,aB,List.cons_append,List.nil_append,pA]
    repeat' (first | (with_reducible refine hY _ ?_;clear hY Y) | ((with_reducible first | refine ar rfl (ay fun K' hK'=>aa ?_) | refine hK' _ (ab fun Y hY=>aa ?_) | refine ba rfl (ab fun Y hY=>aa ?_) | refine ab fun Y hY=>aa ?_ | refine ay fun K' hK'=>aa ?_ | refine ae tk0 cF (ab fun Y hY=>aa ?_) | refine aa ?_ | refine aq ?_);(try clear hK' K');(try dsimp only [aop]);try simp only [go_sem,seval,cF,Tryz.results262,hlr,hlr1,eW,hk4']) | (with_reducible first | refine ag ?_ | refine aW rfl ?_ | refine aK ?_ | refine dc ?_ ?_ | refine aj ?_ | refine am ?_ | refine aF fun K hK=>?_ | refine ax ?_ | refine av ?_ | refine aZ ?_ | refine aD ?_ | refine aA ?_) | (with_reducible refine hK _ ?_;clear hK K) | ((with_reducible first | refine aI ?_ ?_ | refine ai ?_ ?_);(· decide)) | ((with_reducible refine ci (fun hc=>?_) (fun hc=>?_)) <;> (try simp only [decide_eq_true_eq,decide_eq_false_iff_not,Bool.not_true,Bool.not_false,Bool.not_eq_true',Bool.not_eq_false'] at hc) <;> (try (exfalso;omega))) | (with_reducible refine br ?_ ?_;(· (try and_intros) <;> first | omega | assumption | (simp only [List.length_append,List.length_map,List.length_cons,List.length_nil] <;> omega))) | (with_reducible refine ac (h2) ?_))
    all_goals first | rfl | exact ⟨rfl,rfl⟩
def cp : Nat→List Nat
 | 0=>[0]
 | 1=>[0,2]
 | 2=>[0,2,3]
 | 3=>[0,2]
 | 4=>[0,2,3]
 | 5=>[0,2]
 | 6=>[2]
 | 7=>[0,2,3]
 | 8=>[0,2,3]
 | 9=>[0,2]
 | 10=>[0,2]
 | 11=>[0,2]
 | 12=>[0,2,4]
 | 13=>[0,2,4]
 | 14=>[2,4]
 | 15=>[0,2]
 | _=>[]
set_option maxRecDepth 100000 in
set_option maxHeartbeats 4000000 in
theorem En {B : Nat} {g : PS→Ex × PS} (hg : ExK 247 B g) (hmu : ∀ s,(g s).2.mu≤s.mu) : ExK 247 (B + 1) (u2 g):=by
 intro s hs
 have h1:=lR s [45]
 have hm1:=w8 s [45]
 have e1 : (s.take [45]).1 = s.is [45]:=by unfold PS.take;split <;> simp_all
 rw [e1] at h1
 unfold u2
 simp only
 generalize s.is [45] = m at *
 generalize (s.take [45]).2 = s1 at *
 have h2:=wc s1 3
 have h3:=mH s1 11
 have h4:=fun sign=>xQ hg sign s1 (by omega)
 have h5:=qJ s1 [40]
 have h6:=qX s1 [40]
 have h10:=kP s1
 by_cases hk : s1.kind 3 = true
 ·rw [hk] at h2
  simp only [hk,Bool.not_true,Bool.and_false,Bool.false_eq_true,if_false,if_true]
  cases m
  ·have h4:=h4 1 hk
   simp only [Bool.false_eq_true,if_false]
   generalize jH g 1 s1 = q at *
   obtain ⟨⟨k4,n4,x4,ks4⟩,s4⟩:=q
   simp only [exA] at h4 ⊢
   refine aC [] Tryz.func247 rfl Tryz.ntmps247 (Nat.le_of_ble_eq_true rfl) (Nat.le_of_ble_eq_true rfl) fun w0 G0 B0 Pr hB0=>?_
   simp only [aJ,aB,List.cons_append,List.nil_append]
   repeat' (first | (with_reducible refine hY _ ?_;clear hY Y) | ((with_reducible first | refine ar rfl (ay fun K' hK'=>aa ?_) | refine hK' _ (ab fun Y hY=>aa ?_) | refine ab fun Y hY=>aa ?_ | refine ae tk0 cp (ab fun Y hY=>aa ?_) | refine aa ?_ | refine aq ?_);(try clear hK' K');(try dsimp only [aop]);try simp only [go_sem,seval,cp,Tryz.results247]) | (with_reducible first | refine ag ?_ | refine aj ?_ | refine am ?_ | refine aF fun K hK=>?_ | refine ax ?_ | refine av ?_ | refine aZ ?_ | refine bh ?_ | refine ap ?_ | refine aD ?_ | refine aA ?_) | (with_reducible refine hK _ ?_;clear hK K) | ((with_reducible refine ai ?_ ?_);(· decide)) | (with_reducible refine ac (h1) ?_) | (with_reducible refine ac (h2) ?_) | (with_reducible refine ac (h4) ?_))
   all_goals first | rfl | exact ⟨rfl,rfl⟩
  ·have h4:=h4 (-1) hk
   simp only [if_true]
   generalize jH g (-1) s1 = q at *
   obtain ⟨⟨k4,n4,x4,ks4⟩,s4⟩:=q
   simp only [exA] at h4 ⊢
   refine aC [] Tryz.func247 rfl Tryz.ntmps247 (Nat.le_of_ble_eq_true rfl) (Nat.le_of_ble_eq_true rfl) fun w0 G0 B0 Pr hB0=>?_
   simp only [aJ,aB,List.cons_append,List.nil_append]
   repeat' (first | (with_reducible refine hY _ ?_;clear hY Y) | ((with_reducible first | refine ar rfl (ay fun K' hK'=>aa ?_) | refine hK' _ (ab fun Y hY=>aa ?_) | refine ab fun Y hY=>aa ?_ | refine ae tk0 cp (ab fun Y hY=>aa ?_) | refine aa ?_ | refine aq ?_);(try clear hK' K');(try dsimp only [aop]);try simp only [go_sem,seval,cp,Tryz.results247]) | (with_reducible first | refine ag ?_ | refine aj ?_ | refine am ?_ | refine aF fun K hK=>?_ | refine ax ?_ | refine av ?_ | refine aZ ?_ | refine bh ?_ | refine ap ?_ | refine aD ?_ | refine aA ?_) | (with_reducible refine hK _ ?_;clear hK K) | ((with_reducible refine ai ?_ ?_);(· decide)) | (with_reducible refine ac (h1) ?_) | (with_reducible refine ac (h2) ?_) | (with_reducible refine ac (h4) ?_))
   all_goals first | rfl | exact ⟨rfl,rfl⟩
 have hk':=Bool.eq_false_iff.2 hk
 rw [hk'] at h2
 clear h4
 simp only [hk',Bool.not_false,Bool.and_true,Bool.false_eq_true,if_false]
 cases m
 case true =>
  simp only [if_true]
  refine aC [] Tryz.func247 rfl Tryz.ntmps247 (Nat.le_of_ble_eq_true rfl) (Nat.le_of_ble_eq_true rfl) fun w0 G0 B0 Pr hB0=>?_
  simp only [aJ,aB,List.cons_append,List.nil_append]
  repeat' (first | (with_reducible refine hY _ ?_;clear hY Y) | ((with_reducible first | refine ar rfl (ay fun K' hK'=>aa ?_) | refine hK' _ (ab fun Y hY=>aa ?_) | refine ab fun Y hY=>aa ?_ | refine ae tk0 cp (ab fun Y hY=>aa ?_) | refine aa ?_ | refine aq ?_);(try clear hK' K');(try dsimp only [aop]);try simp only [go_sem,seval,cp,Tryz.results247]) | (with_reducible first | refine ag ?_ | refine aj ?_ | refine am ?_ | refine aF fun K hK=>?_ | refine ax ?_ | refine aZ ?_ | refine aA ?_) | (with_reducible refine hK _ ?_;clear hK K) | ((with_reducible refine ai ?_ ?_);(· decide)) | (with_reducible refine ac (h1) ?_) | (with_reducible refine ac (h2) ?_) | (with_reducible refine ac (h3) ?_))
  all_goals first | rfl | exact ⟨rfl,rfl⟩
 simp only [Bool.false_eq_true,if_false]
 by_cases hb : s1.is [40] = true
 ·rw [hb] at h5
  simp only [hb,if_true]
  have hm2:=kO hb
  have h7:=KR hg hmu (s1.open' [40]) (by omega)
  generalize qz g (s1.open' [40]) = q at *
  generalize s1.open' [40] = s2 at *
  obtain ⟨⟨k4,n4,x4,ks4⟩,s4⟩:=q
  have h8:=sv s4 [[41]] .full (by simp)
  simp only [List.map_cons,List.map_nil,List.length_cons,List.length_nil] at h8
  have h9:=kM (s4.due [[41]])
  simp only [exA] at h7 ⊢
  generalize s4.due [[41]] = s5 at *
  refine aC [] Tryz.func247 rfl Tryz.ntmps247 (Nat.le_of_ble_eq_true rfl) (Nat.le_of_ble_eq_true rfl) fun w0 G0 B0 Pr hB0=>?_
  simp only [aJ,aB,List.cons_append,List.nil_append]
  repeat' (first | (with_reducible refine hY _ ?_;clear hY Y) | ((with_reducible first | refine ar rfl (ay fun K' hK'=>aa ?_) | refine hK' _ (ab fun Y hY=>aa ?_) | refine ab fun Y hY=>aa ?_ | refine ae tk0 cp (ab fun Y hY=>aa ?_) | refine aa ?_ | refine aq ?_);(try clear hK' K');(try dsimp only [aop]);try simp only [go_sem,seval,cp,Tryz.results247]) | (with_reducible first | refine ag ?_ | refine aj ?_ | refine am ?_ | refine aF fun K hK=>?_ | refine ax ?_ | refine av ?_ | refine aZ ?_ | refine bh ?_ | refine ap ?_ | refine aD ?_ | refine aA ?_) | (with_reducible refine hK _ ?_;clear hK K) | ((with_reducible refine ai ?_ ?_);(· decide)) | (with_reducible refine ac (h1) ?_) | (with_reducible refine ac (h2) ?_) | (with_reducible refine ac (h5) ?_) | (with_reducible refine ac (h6) ?_) | (with_reducible refine ac (h7) ?_) | (with_reducible refine ac (h8) ?_) | (with_reducible refine ac (h9) ?_))
  all_goals first | rfl | exact ⟨rfl,rfl⟩
 ·have hb':=Bool.eq_false_iff.2 hb
  rw [hb'] at h5
  simp only [hb',Bool.false_eq_true,if_false]
  generalize s1.word 1 = q at *
  refine aC [] Tryz.func247 rfl Tryz.ntmps247 (Nat.le_of_ble_eq_true rfl) (Nat.le_of_ble_eq_true rfl) fun w0 G0 B0 Pr hB0=>?_
  simp only [aJ,aB,List.cons_append,List.nil_append]
  repeat' (first | (with_reducible refine hY _ ?_;clear hY Y) | ((with_reducible first | refine ar rfl (ay fun K' hK'=>aa ?_) | refine hK' _ (ab fun Y hY=>aa ?_) | refine ab fun Y hY=>aa ?_ | refine ae tk0 cp (ab fun Y hY=>aa ?_) | refine aa ?_ | refine aq ?_);(try clear hK' K');(try dsimp only [aop]);try simp only [go_sem,seval,cp,Tryz.results247]) | (with_reducible first | refine ag ?_ | refine aj ?_ | refine am ?_ | refine aF fun K hK=>?_ | refine av ?_ | refine aR ?_ | refine ap ?_ | refine aD ?_ | refine aA ?_) | (with_reducible refine hK _ ?_;clear hK K) | ((with_reducible refine ai ?_ ?_);(· decide)) | (with_reducible refine ac (h1) ?_) | (with_reducible refine ac (h2) ?_) | (with_reducible refine ac (h5) ?_) | (with_reducible refine ac (h10) ?_))
  all_goals first | rfl | exact ⟨rfl,rfl⟩
theorem Am : ∀ f,ExK 247 f (xp f)
 | 0=>fun s hs=>absurd hs (Nat.not_lt_zero _)
 | f + 1=>En (Am f) (nW f)
theorem KM (s : PS) : AFn Tryz.prog 222 [.loc 20000 0] [pA s] (.agg (exA (fG s).1)) [pA (fG s).2] :=
 KR (Am FU) (nW FU) s (jy s)
end Go.Proofs.YtkjnkkmokojnpaaGreatDoor
namespace Go.Proofs.YtkjnkkmokojnpaaGreatDoor
set_option linter.unusedSimpArgs false
set_option linter.unusedVariables false
open Go.RowKit
def cJ : Nat→List Nat
 | 0=>[0,1]
 | 1=>[0,1]
 | 2=>[]
 | 3=>[0]
 | 4=>[0,5]
 | 5=>[0,5]
 | 6=>[5]
 | _=>[]
set_option maxRecDepth 100000 in
set_option maxHeartbeats 4000000 in
theorem wR (s : PS) (u : Wd) : AFn Tryz.prog 249 [.loc 20000 0,bs u] [pA s] (.sl (jU (s.exprs u).1) (s.exprs u).1.length .none) [pA (s.exprs u).2]:=by
 have h1:=qJ s u
 have h2:=KM s
 unfold PS.exprs
 by_cases h : s.is u = true
 ·rw [if_pos h]
  rw [h] at h1
  refine iA (r:=.sl [] 0 .full) ?_ 1 rfl
  refine aC [] Tryz.func249 rfl Tryz.ntmps249 (Nat.le_of_ble_eq_true rfl) (Nat.le_of_ble_eq_true rfl) fun w0 G0 B0 Pr hB0=>?_
  simp only [aJ,aB,List.cons_append,List.nil_append]
  repeat' (first | (with_reducible refine hY _ ?_;clear hY Y) | ((with_reducible first | refine ar rfl (ay fun K' hK'=>aa ?_) | refine hK' _ (ab fun Y hY=>aa ?_) | refine ab fun Y hY=>aa ?_ | refine ae tk0 cJ (ab fun Y hY=>aa ?_) | refine aa ?_ | refine aq ?_);(try clear hK' K');(try dsimp only [aop]);try simp only [go_sem,seval,cJ,Tryz.results249]) | (with_reducible first | refine ag ?_ | refine aj ?_ | refine am ?_ | refine aF fun K hK=>?_ | refine ax ?_ | refine aZ ?_ | refine aA ?_) | (with_reducible refine hK _ ?_;clear hK K) | ((with_reducible refine ai ?_ ?_);(· decide)) | (with_reducible refine ac (h1) ?_))
 rw [if_neg h]
 rw [Bool.eq_false_iff.2 h] at h1
 obtain ⟨R,hR⟩ : ∃ R,R = mR [44] fG FU [(fG s).1] (fG s).2:=⟨_,rfl⟩
 rw [← hR]
 have hm0:=jy (fG s).2
 generalize fG s = q at *
 obtain ⟨⟨k0,n0,x0,ks0⟩,s0⟩:=q
 simp only [exA] at h2
 refine aC [] Tryz.func249 rfl Tryz.ntmps249 (Nat.le_of_ble_eq_true rfl) (Nat.le_of_ble_eq_true rfl) fun w0 G0 B0 Pr hB0=>?_
 simp only [aJ,aB,List.cons_append,List.nil_append]
 repeat' (first | (with_reducible refine hY _ ?_;clear hY Y) | ((with_reducible first | refine ar rfl (ay fun K' hK'=>aa ?_) | refine hK' _ (ab fun Y hY=>aa ?_) | refine ab fun Y hY=>aa ?_ | refine ae tk0 cJ (ab fun Y hY=>aa ?_) | refine aa ?_);(try clear hK' K');(try dsimp only [aop]);try simp only [go_sem,seval,cJ,Tryz.results249]) | (with_reducible first | refine ag ?_ | refine aj ?_ | refine am ?_ | refine aF fun K hK=>?_ | refine av ?_ | refine ap ?_ | refine aD ?_ | refine bW ?_) | (with_reducible refine hK _ ?_;clear hK K) | ((with_reducible refine ai ?_ ?_);(· decide)) | (with_reducible refine ac (h1) ?_) | (with_reducible refine ac (h2) ?_))
 refine jS (nh (b:=10018) (t:=5) 47 (by decide) (by decide) rfl rfl) ?_
 refine b9 (α:=Nat × List Ex × PS) (fun p=>[(0,.loc 20000 0),(5,.sl (jU p.2.1) p.2.1.length (.tok 10018)),(10018,.bt p.2.1.length 47),(20000,pA p.2.2)])
  (fun p=>mR [44] fG p.1 p.2.1 p.2.2 = R∧p.2.2.mu < p.1∧p.2.1.length + p.1≤80000) (fun p=>p.1) (FU,[.mk k0 n0 x0 ks0],s0) [0,5] ?_ ⟨hR.symm,hm0,(by simp [FU])⟩ ?_
 ·simp only [go_sem,seval] <;> rfl
 rintro ⟨f,out,s1⟩ ⟨hgo,hmu,hlen⟩ ih
 simp only at ih hgo hmu hlen ⊢
 obtain ⟨f,rfl⟩ : ∃ f',f = f' + 1:=⟨f - 1,by omega⟩
 rw [mR] at hgo
 have h3:=lR s1 [44]
 have h4:=KM s1.drop
 have hm1:=gS s1.drop
 unfold PS.take at h3
 by_cases hc : s1.is [44] = true
 ·have hm2:=dI hc
  rw [if_pos hc] at hgo h3
  simp only at h3
  generalize fG s1.drop = q2 at *
  obtain ⟨⟨k2,n2,x2,ks2⟩,s2⟩:=q2
  simp only [exA] at h4
  repeat' (first | (with_reducible refine hY _ ?_;clear hY Y) | ((with_reducible first | refine ar rfl (ay fun K' hK'=>aa ?_) | refine hK' _ (ab fun Y hY=>aa ?_) | refine ab fun Y hY=>aa ?_ | refine ae tk0 cJ (ab fun Y hY=>aa ?_) | refine aa ?_);(try clear hK' K');(try dsimp only [aop]);try simp only [go_sem,seval,cJ,Tryz.results249,uI]) | (with_reducible first | refine ag ?_ | refine aj ?_ | refine am ?_ | refine aF fun K hK=>?_ | refine ax ?_ | refine aR ?_ | refine ap ?_ | refine aD ?_) | (with_reducible refine hK _ ?_;clear hK K) | ((with_reducible refine ai ?_ ?_);(· decide)) | (with_reducible refine br ?_ ?_;(· (try and_intros) <;> first | omega | assumption | (simp only [List.length_append,List.length_map,List.length_cons,List.length_nil] <;> omega))) | (with_reducible refine ac (h3) ?_) | (with_reducible refine ac (h4) ?_))
  refine bi [0,5] (by simp only [go_sem,seval];exact rfl) ?_
  refine dd (ih (f,out ++ [.mk k2 n2 x2 ks2],s2) ⟨hgo,Nat.lt_of_le_of_lt hm1 (by omega),(by simp only [List.length_append,List.length_cons,List.length_nil];omega)⟩ (by simp only;omega)) ?_
  simp [uH,jU,exA]
 ·rw [if_neg hc] at hgo h3
  simp only at h3
  subst hgo
  repeat' (first | (with_reducible refine hY _ ?_;clear hY Y) | ((with_reducible first | refine ar rfl (ay fun K' hK'=>aa ?_) | refine hK' _ (ab fun Y hY=>aa ?_) | refine ab fun Y hY=>aa ?_ | refine ae tk0 cJ (ab fun Y hY=>aa ?_) | refine aa ?_ | refine aq ?_);(try clear hK' K');(try dsimp only [aop]);try simp only [go_sem,seval,cJ,Tryz.results249]) | (with_reducible first | refine ag ?_ | refine aj ?_ | refine am ?_ | refine aF fun K hK=>?_ | refine av ?_ | refine cf ?_ | refine bI ?_ | refine aA ?_ | refine bH ?_) | (with_reducible refine hK _ ?_;clear hK K) | ((with_reducible refine ai ?_ ?_);(· decide)) | (with_reducible refine ac (h3) ?_))
def CoK (f : FuncId) (B : Nat) (g : PS→Co × PS) : Prop:=∀ s : PS,s.mu < B→AFn Tryz.prog f [.loc 20000 0] [pA s] (.agg (coA (g s).1)) [pA (g s).2]
def dy : Nat→List Nat
 | 0=>[0]
 | 1=>[0,2]
 | 2=>[0,2,3]
 | 3=>[0,2,3]
 | 4=>[0,2,3,4]
 | 5=>[2,3]
 | _=>[]
set_option maxRecDepth 100000 in
set_option maxHeartbeats 4000000 in
theorem EZ {B : Nat} {g : PS→Co × PS} (hg : CoK 263 B g) (hmu : ∀ s,(g s).2.mu≤s.mu) : CoK 248 B (uo g):=by
 intro s hs
 obtain ⟨R,hR⟩ : ∃ R,R = uo g s:=⟨_,rfl⟩
 rw [← hR]
 unfold uo at hR
 have h1:=hg s hs
 have hm0:=jy (g s).2
 have hm1:=hmu s
 generalize g s = q at *
 obtain ⟨⟨k0,e0,ks0⟩,s0⟩:=q
 simp only [coA] at h1
 refine aC [] Tryz.func248 rfl Tryz.ntmps248 (Nat.le_of_ble_eq_true rfl) (Nat.le_of_ble_eq_true rfl) fun w0 G0 B0 Pr hB0=>?_
 simp only [aJ,aB,List.cons_append,List.nil_append]
 repeat' (first | (with_reducible refine hY _ ?_;clear hY Y) | ((with_reducible first | refine ar rfl (ay fun K' hK'=>aa ?_) | refine hK' _ (ab fun Y hY=>aa ?_) | refine ae tk0 dy (ab fun Y hY=>aa ?_) | refine aa ?_);(try clear hK' K');(try dsimp only [aop]);try simp only [go_sem,seval,dy,Tryz.results248]) | (with_reducible first | refine ag ?_ | refine aj ?_ | refine am ?_ | refine aF fun K hK=>?_ | refine ap ?_ | refine bW ?_) | (with_reducible refine hK _ ?_;clear hK K) | (with_reducible refine ac (h1) ?_))
 refine b9 (α:=Nat × Co × PS) (fun p=>[(0,.loc 20000 0),(2,.loc 10002 0),(3,.loc 10003 0),(10002,.bc (coA coZ) 51),(10003,.bc (coA p.2.1) 51),(20000,pA p.2.2)])
  (fun p=>ll [38,38] (fun a b=>.mk 7 [] [a,b]) g p.1 p.2.1 p.2.2 = R∧p.2.2.mu < p.1∧p.2.2.mu < B) (fun p=>p.1) (FU,.mk k0 e0 ks0,s0) [0,2,3] ?_ ⟨hR.symm,hm0,Nat.lt_of_le_of_lt hm1 hs⟩ ?_
 ·simp only [go_sem,seval] <;> rfl
 rintro ⟨f,⟨k1,e1,ks1⟩,s1⟩ ⟨hgo,hmf,hmB⟩ ih
 simp only [coA,coZ,xP,jU] at ih hgo hmf hmB ⊢
 obtain ⟨f,rfl⟩ : ∃ f',f = f' + 1:=⟨f - 1,by omega⟩
 rw [ll] at hgo
 have h3:=lR s1 [38,38]
 unfold PS.take at h3
 by_cases hc : s1.is [38,38] = true
 ·have hm2:=dI hc
  have hm3:=hmu s1.drop
  have h4:=hg s1.drop (by omega)
  rw [if_pos hc] at hgo h3
  simp only at h3
  generalize g s1.drop = q2 at *
  obtain ⟨⟨k2,e2,ks2⟩,s2⟩:=q2
  simp only [coA] at h4 hgo hm3
  repeat' (first | (with_reducible refine hY _ ?_;clear hY Y) | ((with_reducible first | refine ar rfl (ay fun K' hK'=>aa ?_) | refine hK' _ (ab fun Y hY=>aa ?_) | refine ab fun Y hY=>aa ?_ | refine ae tk0 dy (ab fun Y hY=>aa ?_) | refine aa ?_);(try clear hK' K');(try dsimp only [aop]);try simp only [go_sem,seval,dy,Tryz.results248]) | (with_reducible first | refine ag ?_ | refine aj ?_ | refine am ?_ | refine aF fun K hK=>?_ | refine ax ?_ | refine aR ?_ | refine ap ?_ | refine aD ?_) | (with_reducible refine hK _ ?_;clear hK K) | ((with_reducible refine ai ?_ ?_);(· decide)) | (with_reducible refine ac (h3) ?_) | (with_reducible refine ac (h4) ?_))
  refine bi [0,2,3] (by simp only [go_sem,seval];exact rfl) ?_
  refine dd (ih (f,_,s2) ⟨hgo,by simp only;omega,by simp only;omega⟩ (by simp only;omega)) ?_
  rfl
 ·rw [if_neg hc] at hgo h3
  simp only at h3
  rw [← hgo]
  repeat' (first | (with_reducible refine hY _ ?_;clear hY Y) | ((with_reducible first | refine ar rfl (ay fun K' hK'=>aa ?_) | refine hK' _ (ab fun Y hY=>aa ?_) | refine ab fun Y hY=>aa ?_ | refine ae tk0 dy (ab fun Y hY=>aa ?_) | refine aa ?_ | refine aq ?_);(try clear hK' K');(try dsimp only [aop]);try simp only [go_sem,seval,dy,Tryz.results248]) | (with_reducible first | refine ag ?_ | refine aj ?_ | refine am ?_ | refine aF fun K hK=>?_ | refine av ?_ | refine cf ?_ | refine bI ?_ | refine aA ?_ | refine bH ?_) | (with_reducible refine hK _ ?_;clear hK K) | ((with_reducible refine ai ?_ ?_);(· decide)) | (with_reducible refine ac (h3) ?_))
  all_goals first | rfl | exact ⟨rfl,rfl⟩
def dp : Nat→List Nat
 | 0=>[0]
 | 1=>[0,2]
 | 2=>[0,2,3]
 | 3=>[0,2,3]
 | 4=>[0,2,3,4]
 | 5=>[2,3]
 | _=>[]
set_option maxRecDepth 100000 in
set_option maxHeartbeats 4000000 in
theorem KQ {B : Nat} {o : PS→Co × PS} (ho : CoK 263 B o) (hmo : ∀ s,(o s).2.mu≤s.mu) : CoK 223 B (qt o):=by
 intro s hs
 have hg:=EZ ho hmo
 have hmu:=sY hmo
 obtain ⟨R,hR⟩ : ∃ R,R = qt o s:=⟨_,rfl⟩
 rw [← hR]
 unfold qt at hR
 generalize uo o = g at *
 have h1:=hg s hs
 have hm0:=jy (g s).2
 have hm1:=hmu s
 generalize g s = q at *
 obtain ⟨⟨k0,e0,ks0⟩,s0⟩:=q
 simp only [coA] at h1
 refine aC [] Tryz.func223 rfl Tryz.ntmps223 (Nat.le_of_ble_eq_true rfl) (Nat.le_of_ble_eq_true rfl) fun w0 G0 B0 Pr hB0=>?_
 simp only [aJ,aB,List.cons_append,List.nil_append]
 repeat' (first | (with_reducible refine hY _ ?_;clear hY Y) | ((with_reducible first | refine ar rfl (ay fun K' hK'=>aa ?_) | refine hK' _ (ab fun Y hY=>aa ?_) | refine ae tk0 dp (ab fun Y hY=>aa ?_) | refine aa ?_);(try clear hK' K');(try dsimp only [aop]);try simp only [go_sem,seval,dp,Tryz.results223]) | (with_reducible first | refine ag ?_ | refine aj ?_ | refine am ?_ | refine aF fun K hK=>?_ | refine ap ?_ | refine bW ?_) | (with_reducible refine hK _ ?_;clear hK K) | (with_reducible refine ac (h1) ?_))
 refine b9 (α:=Nat × Co × PS) (fun p=>[(0,.loc 20000 0),(2,.loc 10002 0),(3,.loc 10003 0),(10002,.bc (coA coZ) 51),(10003,.bc (coA p.2.1) 51),(20000,pA p.2.2)])
  (fun p=>ll [124,124] (fun a b=>.mk 8 [] [a,b]) g p.1 p.2.1 p.2.2 = R∧p.2.2.mu < p.1∧p.2.2.mu < B) (fun p=>p.1) (FU,.mk k0 e0 ks0,s0) [0,2,3] ?_ ⟨hR.symm,hm0,Nat.lt_of_le_of_lt hm1 hs⟩ ?_
 ·simp only [go_sem,seval] <;> rfl
 rintro ⟨f,⟨k1,e1,ks1⟩,s1⟩ ⟨hgo,hmf,hmB⟩ ih
 simp only [coA,coZ,xP,jU] at ih hgo hmf hmB ⊢
 obtain ⟨f,rfl⟩ : ∃ f',f = f' + 1:=⟨f - 1,by omega⟩
 rw [ll] at hgo
 have h3:=lR s1 [124,124]
 unfold PS.take at h3
 by_cases hc : s1.is [124,124] = true
 ·have hm2:=dI hc
  have hm3:=hmu s1.drop
  have h4:=hg s1.drop (by omega)
  rw [if_pos hc] at hgo h3
  simp only at h3
  generalize g s1.drop = q2 at *
  obtain ⟨⟨k2,e2,ks2⟩,s2⟩:=q2
  simp only [coA] at h4 hgo hm3
  repeat' (first | (with_reducible refine hY _ ?_;clear hY Y) | ((with_reducible first | refine ar rfl (ay fun K' hK'=>aa ?_) | refine hK' _ (ab fun Y hY=>aa ?_) | refine ab fun Y hY=>aa ?_ | refine ae tk0 dp (ab fun Y hY=>aa ?_) | refine aa ?_);(try clear hK' K');(try dsimp only [aop]);try simp only [go_sem,seval,dp,Tryz.results223]) | (with_reducible first | refine ag ?_ | refine aj ?_ | refine am ?_ | refine aF fun K hK=>?_ | refine ax ?_ | refine aR ?_ | refine ap ?_ | refine aD ?_) | (with_reducible refine hK _ ?_;clear hK K) | ((with_reducible refine ai ?_ ?_);(· decide)) | (with_reducible refine ac (h3) ?_) | (with_reducible refine ac (h4) ?_))
  refine bi [0,2,3] (by simp only [go_sem,seval];exact rfl) ?_
  refine dd (ih (f,_,s2) ⟨hgo,by simp only;omega,by simp only;omega⟩ (by simp only;omega)) ?_
  rfl
 ·rw [if_neg hc] at hgo h3
  simp only at h3
  rw [← hgo]
  repeat' (first | (with_reducible refine hY _ ?_;clear hY Y) | ((with_reducible first | refine ar rfl (ay fun K' hK'=>aa ?_) | refine hK' _ (ab fun Y hY=>aa ?_) | refine ab fun Y hY=>aa ?_ | refine ae tk0 dp (ab fun Y hY=>aa ?_) | refine aa ?_ | refine aq ?_);(try clear hK' K');(try dsimp only [aop]);try simp only [go_sem,seval,dp,Tryz.results223]) | (with_reducible first | refine ag ?_ | refine aj ?_ | refine am ?_ | refine aF fun K hK=>?_ | refine av ?_ | refine cf ?_ | refine bI ?_ | refine aA ?_ | refine bH ?_) | (with_reducible refine hK _ ?_;clear hK K) | ((with_reducible refine ai ?_ ?_);(· decide)) | (with_reducible refine ac (h3) ?_))
  all_goals first | rfl | exact ⟨rfl,rfl⟩
def fQ : Nat→List Nat
 | 0=>[0]
 | 1=>[0,2]
 | 2=>[0,2]
 | 3=>[0,2,3]
 | 4=>[0,2,3]
 | 5=>[2,3]
 | _=>[]
set_option maxRecDepth 100000 in
set_option maxHeartbeats 4000000 in
theorem so {B : Nat} {o : PS→Co × PS} (ho : CoK 263 B o) (hmo : ∀ s,(o s).2.mu≤s.mu) (s : PS) (hs : s.mu < B + 1) (hb : s.is [91] = true∨s.mu < B) :
  AFn Tryz.prog 219 [.loc 20000 0] [pA s] (.agg (coA (js o s).1)) [pA (js o s).2]:=by
 have hm : (s.open' [91]).mu < B:=by
  rcases hb with hb | hb
  ·have:=kO hb;omega
  ·have:=jj s [91];omega
 have h1:=qX s [91]
 have h2:=KQ ho hmo (s.open' [91]) hm
 unfold js
 simp only
 generalize s.open' [91] = s1 at *
 generalize qt o s1 = q at *
 obtain ⟨⟨k0,e0,ks0⟩,s0⟩:=q
 have h3:=sv s0 [[93]] .full (by simp)
 simp only [List.map_cons,List.map_nil,List.length_cons,List.length_nil] at h3
 have h4:=kM (s0.due [[93]])
 simp only [coA] at h2 ⊢
 generalize s0.due [[93]] = s5 at *
 refine aC [] Tryz.func219 rfl Tryz.ntmps219 (Nat.le_of_ble_eq_true rfl) (Nat.le_of_ble_eq_true rfl) fun w0 G0 B0 Pr hB0=>?_
 simp only [aJ,aB,List.cons_append,List.nil_append]
 repeat' (first | (with_reducible refine hY _ ?_;clear hY Y) | ((with_reducible first | refine ar rfl (ay fun K' hK'=>aa ?_) | refine hK' _ (ab fun Y hY=>aa ?_) | refine ae tk0 fQ (ab fun Y hY=>aa ?_) | refine aa ?_ | refine aq ?_);(try clear hK' K');(try dsimp only [aop]);try simp only [go_sem,seval,fQ,Tryz.results219]) | (with_reducible first | refine ag ?_ | refine aj ?_ | refine am ?_ | refine aF fun K hK=>?_ | refine aA ?_) | (with_reducible refine hK _ ?_;clear hK K) | (with_reducible refine ac (h1) ?_) | (with_reducible refine ac (h2) ?_) | (with_reducible refine ac (h3) ?_) | (with_reducible refine ac (h4) ?_))
 all_goals first | rfl | exact ⟨rfl,rfl⟩
end Go.Proofs.YtkjnkkmokojnpaaGreatDoor
namespace Go.Proofs.YtkjnkkmokojnpaaGreatDoor
set_option linter.unusedSimpArgs false
set_option linter.unusedVariables false
open Go.RowKit
theorem eL {s : PS} {w : Wd} (h : s.is w = true) : AFn Tryz.prog 189 [.loc 20000 0,bs w] [pA s] (.c (.bool true)) [pA s.drop]:=by
 have h1:=lR s w
 unfold PS.take at h1
 rw [if_pos h] at h1
 exact h1
theorem fw {s : PS} {w : Wd} (h : s.is w = false) : AFn Tryz.prog 189 [.loc 20000 0,bs w] [pA s] (.c (.bool false)) [pA s]:=by
 have h1:=lR s w
 unfold PS.take at h1
 rw [h] at h1
 exact h1
theorem mJ {s : PS} {w : Wd} (h : s.is w = true) : AFn Tryz.prog 192 [.loc 20000 0,bs w] [pA s] (.c (.bool true)) [pA s]:=h ▸ qJ s w
theorem nH {s : PS} {w : Wd} (h : s.is w = false) : AFn Tryz.prog 192 [.loc 20000 0,bs w] [pA s] (.c (.bool false)) [pA s]:=h ▸ qJ s w
def bw : Nat→List Nat
 | 0=>[0]
 | 1=>[0,2]
 | 2=>[0,2]
 | 3=>[0,2]
 | 4=>[0,2,3]
 | 5=>[2,3]
 | 6=>[0,2]
 | 7=>[0,2]
 | 8=>[0,2]
 | 9=>[2]
 | 10=>[0,2]
 | 11=>[2]
 | 12=>[0,2]
 | 13=>[0,2,4]
 | 14=>[0,2,4,5]
 | 15=>[0,2,4,5]
 | 16=>[0,2,4,5]
 | 17=>[0,2,4]
 | 18=>[0,2,4,5]
 | 19=>[0,2,4]
 | 20=>[0,2,4,5]
 | 21=>[0,2,4]
 | 22=>[0,2,4,5]
 | 23=>[2,4,5,6]
 | _=>[]
set_option maxRecDepth 100000 in
set_option maxHeartbeats 8000000 in
theorem Fa {B : Nat} {g : PS→Co × PS} (hg : CoK 263 B g) (hmu : ∀ s,(g s).2.mu≤s.mu) : CoK 263 (B + 1) (Ae g):=by
 intro s hs
 unfold Ae
 cases c1 : s.is [33]
 case true =>
  simp only [if_true]
  have h1:=mJ c1
  have h2:=qX s [33]
  have hm:=kO c1
  have h3:=hg (s.open' [33]) (by omega)
  generalize s.open' [33] = s1 at *
  generalize g s1 = q at *
  obtain ⟨⟨k0,e0,ks0⟩,s0⟩:=q
  have h4:=kM s0
  simp only [coA] at h3 ⊢
  refine aC [] Tryz.func263 rfl Tryz.ntmps263 (Nat.le_of_ble_eq_true rfl) (Nat.le_of_ble_eq_true rfl) fun w0 G0 B0 Pr hB0=>?_
  simp only [aJ,aB,List.cons_append,List.nil_append]
  repeat' (first | (with_reducible refine hY _ ?_;clear hY Y) | ((with_reducible first | refine ar rfl (ay fun K' hK'=>aa ?_) | refine hK' _ (ab fun Y hY=>aa ?_) | refine ab fun Y hY=>aa ?_ | refine ae tk0 bw (ab fun Y hY=>aa ?_) | refine aa ?_ | refine aq ?_);(try clear hK' K');(try dsimp only [aop]);try simp only [go_sem,seval,bw,Tryz.results263]) | (with_reducible first | refine ag ?_ | refine aj ?_ | refine am ?_ | refine aF fun K hK=>?_ | refine ax ?_ | refine aZ ?_ | refine bh ?_ | refine ap ?_ | refine aA ?_) | (with_reducible refine hK _ ?_;clear hK K) | ((with_reducible refine ai ?_ ?_);(· decide)) | (with_reducible refine ac (h1) ?_) | (with_reducible refine ac (h2) ?_) | (with_reducible refine ac (h3) ?_) | (with_reducible refine ac (h4) ?_))
  all_goals first | rfl | exact ⟨rfl,rfl⟩
 simp only [Bool.false_eq_true,if_false]
 have h1:=nH c1
 cases c2 : s.is [91]
 case true =>
  simp only [if_true]
  have h2:=mJ c2
  have h3:=so hg hmu s hs (.inl c2)
  generalize js g s = q at *
  obtain ⟨⟨k0,e0,ks0⟩,s0⟩:=q
  simp only [coA] at h3 ⊢
  refine aC [] Tryz.func263 rfl Tryz.ntmps263 (Nat.le_of_ble_eq_true rfl) (Nat.le_of_ble_eq_true rfl) fun w0 G0 B0 Pr hB0=>?_
  simp only [aJ,aB,List.cons_append,List.nil_append]
  repeat' (first | (with_reducible refine hY _ ?_;clear hY Y) | ((with_reducible first | refine ar rfl (ay fun K' hK'=>aa ?_) | refine hK' _ (ab fun Y hY=>aa ?_) | refine ab fun Y hY=>aa ?_ | refine ae tk0 bw (ab fun Y hY=>aa ?_) | refine aa ?_ | refine aq ?_);(try clear hK' K');(try dsimp only [aop]);try simp only [go_sem,seval,bw,Tryz.results263]) | (with_reducible first | refine ag ?_ | refine aj ?_ | refine am ?_ | refine aF fun K hK=>?_ | refine ax ?_ | refine av ?_ | refine aZ ?_ | refine bh ?_ | refine ap ?_ | refine aA ?_) | (with_reducible refine hK _ ?_;clear hK K) | ((with_reducible refine ai ?_ ?_);(· decide)) | (with_reducible refine ac (h1) ?_) | (with_reducible refine ac (h2) ?_) | (with_reducible refine ac (h3) ?_))
  all_goals first | rfl | exact ⟨rfl,rfl⟩
 simp only [Bool.false_eq_true,if_false]
 have h2:=nH c2
 cases c3 : s.is [116,114,117,101]
 case true =>
  simp only [if_true]
  have h3:=eL c3
  generalize s.drop = s1 at *
  refine aC [] Tryz.func263 rfl Tryz.ntmps263 (Nat.le_of_ble_eq_true rfl) (Nat.le_of_ble_eq_true rfl) fun w0 G0 B0 Pr hB0=>?_
  simp only [aJ,aB,List.cons_append,List.nil_append]
  repeat' (first | (with_reducible refine hY _ ?_;clear hY Y) | ((with_reducible first | refine ar rfl (ay fun K' hK'=>aa ?_) | refine hK' _ (ab fun Y hY=>aa ?_) | refine ab fun Y hY=>aa ?_ | refine ae tk0 bw (ab fun Y hY=>aa ?_) | refine aa ?_ | refine aq ?_);(try clear hK' K');(try dsimp only [aop]);try simp only [go_sem,seval,bw,Tryz.results263]) | (with_reducible first | refine ag ?_ | refine aj ?_ | refine am ?_ | refine aF fun K hK=>?_ | refine ax ?_ | refine av ?_ | refine aZ ?_ | refine bh ?_ | refine ap ?_ | refine aA ?_) | (with_reducible refine hK _ ?_;clear hK K) | ((with_reducible refine ai ?_ ?_);(· decide)) | (with_reducible refine ac (h1) ?_) | (with_reducible refine ac (h2) ?_) | (with_reducible refine ac (h3) ?_))
  all_goals first | rfl | exact ⟨rfl,rfl⟩
 simp only [Bool.false_eq_true,if_false]
 have h3:=fw c3
 cases c4 : s.is [102,97,108,115,101]
 case true =>
  simp only [if_true]
  have h4:=eL c4
  generalize s.drop = s1 at *
  refine aC [] Tryz.func263 rfl Tryz.ntmps263 (Nat.le_of_ble_eq_true rfl) (Nat.le_of_ble_eq_true rfl) fun w0 G0 B0 Pr hB0=>?_
  simp only [aJ,aB,List.cons_append,List.nil_append]
  repeat' (first | (with_reducible refine hY _ ?_;clear hY Y) | ((with_reducible first | refine ar rfl (ay fun K' hK'=>aa ?_) | refine hK' _ (ab fun Y hY=>aa ?_) | refine ab fun Y hY=>aa ?_ | refine ae tk0 bw (ab fun Y hY=>aa ?_) | refine aa ?_ | refine aq ?_);(try clear hK' K');(try dsimp only [aop]);try simp only [go_sem,seval,bw,Tryz.results263]) | (with_reducible first | refine ag ?_ | refine aj ?_ | refine am ?_ | refine aF fun K hK=>?_ | refine ax ?_ | refine av ?_ | refine aZ ?_ | refine bh ?_ | refine ap ?_ | refine aA ?_) | (with_reducible refine hK _ ?_;clear hK K) | ((with_reducible refine ai ?_ ?_);(· decide)) | (with_reducible refine ac (h1) ?_) | (with_reducible refine ac (h2) ?_) | (with_reducible refine ac (h3) ?_) | (with_reducible refine ac (h4) ?_))
  all_goals first | rfl | exact ⟨rfl,rfl⟩
 simp only [Bool.false_eq_true,if_false]
 have h4:=fw c4
 clear c1 c2 c3 c4
 have h5:=KM s
 generalize fG s = q at *
 obtain ⟨⟨k0,n0,x0,ks0⟩,s2⟩:=q
 simp only [exA] at h5 ⊢
 unfold PS.cmp
 cases d1 : s2.is [61,61]
 case true =>
  simp only [if_true]
  have h6:=eL d1
  generalize s2.drop = s3 at *
  have hq:=KM s3
  generalize fG s3 = q3 at *
  obtain ⟨⟨k3,n3,x3,ks3⟩,s4⟩:=q3
  simp only [exA] at hq ⊢
  refine aC [] Tryz.func263 rfl Tryz.ntmps263 (Nat.le_of_ble_eq_true rfl) (Nat.le_of_ble_eq_true rfl) fun w0 G0 B0 Pr hB0=>?_
  simp only [aJ,aB,List.cons_append,List.nil_append]
  repeat' (first | (with_reducible refine hY _ ?_;clear hY Y) | ((with_reducible first | refine ar rfl (ay fun K' hK'=>aa ?_) | refine hK' _ (ab fun Y hY=>aa ?_) | refine ab fun Y hY=>aa ?_ | refine ae tk0 bw (ab fun Y hY=>aa ?_) | refine aa ?_ | refine aq ?_);(try clear hK' K');(try dsimp only [aop]);try simp only [go_sem,seval,bw,Tryz.results263]) | (with_reducible first | refine ag ?_ | refine aj ?_ | refine am ?_ | refine aF fun K hK=>?_ | refine ax ?_ | refine av ?_ | refine aR ?_ | refine ap ?_ | refine aD ?_ | refine aA ?_) | (with_reducible refine hK _ ?_;clear hK K) | ((with_reducible refine ai ?_ ?_);(· decide)) | (with_reducible refine ac (h1) ?_) | (with_reducible refine ac (h2) ?_) | (with_reducible refine ac (h3) ?_) | (with_reducible refine ac (h4) ?_) | (with_reducible refine ac (h5) ?_) | (with_reducible refine ac (h6) ?_) | (with_reducible refine ac (hq) ?_))
  all_goals first | rfl | exact ⟨rfl,rfl⟩
 simp only [Bool.false_eq_true,if_false]
 have h6:=fw d1
 cases d2 : s2.is [33,61]
 case true =>
  simp only [if_true]
  have h7:=eL d2
  generalize s2.drop = s3 at *
  have hq:=KM s3
  generalize fG s3 = q3 at *
  obtain ⟨⟨k3,n3,x3,ks3⟩,s4⟩:=q3
  simp only [exA] at hq ⊢
  refine aC [] Tryz.func263 rfl Tryz.ntmps263 (Nat.le_of_ble_eq_true rfl) (Nat.le_of_ble_eq_true rfl) fun w0 G0 B0 Pr hB0=>?_
  simp only [aJ,aB,List.cons_append,List.nil_append]
  repeat' (first | (with_reducible refine hY _ ?_;clear hY Y) | ((with_reducible first | refine ar rfl (ay fun K' hK'=>aa ?_) | refine hK' _ (ab fun Y hY=>aa ?_) | refine ab fun Y hY=>aa ?_ | refine ae tk0 bw (ab fun Y hY=>aa ?_) | refine aa ?_ | refine aq ?_);(try clear hK' K');(try dsimp only [aop]);try simp only [go_sem,seval,bw,Tryz.results263]) | (with_reducible first | refine ag ?_ | refine aj ?_ | refine am ?_ | refine aF fun K hK=>?_ | refine ax ?_ | refine av ?_ | refine aR ?_ | refine ap ?_ | refine aD ?_ | refine aA ?_) | (with_reducible refine hK _ ?_;clear hK K) | ((with_reducible refine ai ?_ ?_);(· decide)) | (with_reducible refine ac (h1) ?_) | (with_reducible refine ac (h2) ?_) | (with_reducible refine ac (h3) ?_) | (with_reducible refine ac (h4) ?_) | (with_reducible refine ac (h5) ?_) | (with_reducible refine ac (h6) ?_) | (with_reducible refine ac (h7) ?_) | (with_reducible refine ac (hq) ?_))
  all_goals first | rfl | exact ⟨rfl,rfl⟩
 simp only [Bool.false_eq_true,if_false]
 have h7:=fw d2
 cases d3 : s2.is [60]
 case true =>
  simp only [if_true]
  have h8:=eL d3
  generalize s2.drop = s3 at *
  have hq:=KM s3
  generalize fG s3 = q3 at *
  obtain ⟨⟨k3,n3,x3,ks3⟩,s4⟩:=q3
  simp only [exA] at hq ⊢
  refine aC [] Tryz.func263 rfl Tryz.ntmps263 (Nat.le_of_ble_eq_true rfl) (Nat.le_of_ble_eq_true rfl) fun w0 G0 B0 Pr hB0=>?_
  simp only [aJ,aB,List.cons_append,List.nil_append]
  repeat' (first | (with_reducible refine hY _ ?_;clear hY Y) | ((with_reducible first | refine ar rfl (ay fun K' hK'=>aa ?_) | refine hK' _ (ab fun Y hY=>aa ?_) | refine ab fun Y hY=>aa ?_ | refine ae tk0 bw (ab fun Y hY=>aa ?_) | refine aa ?_ | refine aq ?_);(try clear hK' K');(try dsimp only [aop]);try simp only [go_sem,seval,bw,Tryz.results263]) | (with_reducible first | refine ag ?_ | refine aj ?_ | refine am ?_ | refine aF fun K hK=>?_ | refine ax ?_ | refine av ?_ | refine aR ?_ | refine ap ?_ | refine aD ?_ | refine aA ?_) | (with_reducible refine hK _ ?_;clear hK K) | ((with_reducible refine ai ?_ ?_);(· decide)) | (with_reducible refine ac (h1) ?_) | (with_reducible refine ac (h2) ?_) | (with_reducible refine ac (h3) ?_) | (with_reducible refine ac (h4) ?_) | (with_reducible refine ac (h5) ?_) | (with_reducible refine ac (h6) ?_) | (with_reducible refine ac (h7) ?_) | (with_reducible refine ac (h8) ?_) | (with_reducible refine ac (hq) ?_))
  all_goals first | rfl | exact ⟨rfl,rfl⟩
 simp only [Bool.false_eq_true,if_false]
 have h8:=fw d3
 cases d4 : s2.is [60,61]
 case true =>
  simp only [if_true]
  have h9:=eL d4
  generalize s2.drop = s3 at *
  have hq:=KM s3
  generalize fG s3 = q3 at *
  obtain ⟨⟨k3,n3,x3,ks3⟩,s4⟩:=q3
  simp only [exA] at hq ⊢
  refine aC [] Tryz.func263 rfl Tryz.ntmps263 (Nat.le_of_ble_eq_true rfl) (Nat.le_of_ble_eq_true rfl) fun w0 G0 B0 Pr hB0=>?_
  simp only [aJ,aB,List.cons_append,List.nil_append]
  repeat' (first | (with_reducible refine hY _ ?_;clear hY Y) | ((with_reducible first | refine ar rfl (ay fun K' hK'=>aa ?_) | refine hK' _ (ab fun Y hY=>aa ?_) | refine ab fun Y hY=>aa ?_ | refine ae tk0 bw (ab fun Y hY=>aa ?_) | refine aa ?_ | refine aq ?_);(try clear hK' K');(try dsimp only [aop]);try simp only [go_sem,seval,bw,Tryz.results263]) | (with_reducible first | refine ag ?_ | refine aj ?_ | refine am ?_ | refine aF fun K hK=>?_ | refine ax ?_ | refine av ?_ | refine aR ?_ | refine ap ?_ | refine aD ?_ | refine aA ?_) | (with_reducible refine hK _ ?_;clear hK K) | ((with_reducible refine ai ?_ ?_);(· decide)) | (with_reducible refine ac (h1) ?_) | (with_reducible refine ac (h2) ?_) | (with_reducible refine ac (h3) ?_) | (with_reducible refine ac (h4) ?_) | (with_reducible refine ac (h5) ?_) | (with_reducible refine ac (h6) ?_) | (with_reducible refine ac (h7) ?_) | (with_reducible refine ac (h8) ?_) | (with_reducible refine ac (h9) ?_) | (with_reducible refine ac (hq) ?_))
  all_goals first | rfl | exact ⟨rfl,rfl⟩
 simp only [Bool.false_eq_true,if_false]
 have h9:=fw d4
 have h10:=mH s2 11
 generalize s2.fail 11 = s3 at *
 have hq:=KM s3
 generalize fG s3 = q3 at *
 obtain ⟨⟨k3,n3,x3,ks3⟩,s4⟩:=q3
 simp only [exA] at hq ⊢
 refine aC [] Tryz.func263 rfl Tryz.ntmps263 (Nat.le_of_ble_eq_true rfl) (Nat.le_of_ble_eq_true rfl) fun w0 G0 B0 Pr hB0=>?_
 simp only [aJ,aB,List.cons_append,List.nil_append]
 repeat' (first | (with_reducible refine hY _ ?_;clear hY Y) | ((with_reducible first | refine ar rfl (ay fun K' hK'=>aa ?_) | refine hK' _ (ab fun Y hY=>aa ?_) | refine ab fun Y hY=>aa ?_ | refine ae tk0 bw (ab fun Y hY=>aa ?_) | refine aa ?_ | refine aq ?_);(try clear hK' K');(try dsimp only [aop]);try simp only [go_sem,seval,bw,Tryz.results263]) | (with_reducible first | refine ag ?_ | refine aj ?_ | refine am ?_ | refine aF fun K hK=>?_ | refine av ?_ | refine aR ?_ | refine ap ?_ | refine aD ?_ | refine aA ?_) | (with_reducible refine hK _ ?_;clear hK K) | ((with_reducible refine ai ?_ ?_);(· decide)) | (with_reducible refine ac (h1) ?_) | (with_reducible refine ac (h2) ?_) | (with_reducible refine ac (h3) ?_) | (with_reducible refine ac (h4) ?_) | (with_reducible refine ac (h5) ?_) | (with_reducible refine ac (h6) ?_) | (with_reducible refine ac (h7) ?_) | (with_reducible refine ac (h8) ?_) | (with_reducible refine ac (h9) ?_) | (with_reducible refine ac (h10) ?_) | (with_reducible refine ac (hq) ?_))
 all_goals first | rfl | exact ⟨rfl,rfl⟩
theorem Af : ∀ f,CoK 263 f (Ad f)
 | 0=>fun s hs=>absurd hs (Nat.not_lt_zero _)
 | f + 1=>Fa (Af f) (me f)
theorem KN (s : PS) : AFn Tryz.prog 223 [.loc 20000 0] [pA s] (.agg (coA (lB s).1)) [pA (lB s).2] :=
 KQ (Af FU) (me FU) s (jy s)
theorem xO (s : PS) : AFn Tryz.prog 219 [.loc 20000 0] [pA s] (.agg (coA (lA s).1)) [pA (lA s).2] :=
 so (Af FU) (me FU) s (Nat.lt_succ_of_lt (jy s)) (.inr (jy s))
end Go.Proofs.YtkjnkkmokojnpaaGreatDoor
namespace Go.Proofs.YtkjnkkmokojnpaaGreatDoor
set_option linter.unusedSimpArgs false
set_option linter.unusedVariables false
open Go.RowKit
def PS.place (s : PS) : Ex × Wd × PS :=
 let p:=fG s
 let q:=(p.2.due [[46]]).word 1
 (p.1,q.1,q.2)
theorem km (s : PS) : s.place.2.2.mu≤s.mu:=Nat.le_trans (gY _ _) (Nat.le_trans (da _ _) (gS s))
def iG (assn : PS→As × PS) (a b : Wd) (s : PS) : As × PS :=
 let p:=assn (s.open' a)
 (p.1,(p.2.due [b]).leave)
def pd (item : PS→As × PS) (s : PS) : As × PS:=ll [38] (fun a b=>.mk 4 coZ exZ exZ [] 0 [a,b]) item FU (item s).1 (item s).2
def PS.cell (s : PS) (pts : Bool) : As × PS :=
 let p:=(s.due [[40]]).place
 let q:=(p.2.2.due [[44]]).number
 if pts then
  let v:=fG (q.2.due [[44]])
  (.mk 3 coZ p.1 v.1 p.2.1 q.1 [],v.2.due [[41]])
 else (.mk 2 coZ p.1 exZ p.2.1 q.1 [],q.2.due [[41]])
def uN (assn : PS→As × PS) (s : PS) : As × PS :=
 if s.is [101,109,112] then (asZ,s.drop)
 else if s.is [91] then
  let c:=lA s
  (.mk 1 c.1 exZ exZ [] 0 [],c.2)
 else if s.is [97,99,99] || s.is [112,116,115] then s.drop.cell (s.is [112,116,115])
 else if s.is [105,102] then
  let c:=lB s.drop
  let x:=iG assn [123] [125] c.2
  let y:=iG assn [123] [125] (x.2.due [[101,108,115,101]])
  (.mk 5 c.1 exZ exZ [] 0 [x.1,y.1],y.2)
 else if s.is [40] then iG assn [40] [41] s
 else (asZ,s.fail 11)
def wY : Nat→PS→As × PS
 | 0,s=>(asZ,s)
 | f + 1,s=>uN (pd (wY f)) s
def nk (s : PS) : As × PS:=pd (wY FU) s
theorem qj {g : PS→As × PS} (hg : ∀ s,(g s).2.mu≤s.mu) (s : PS) : (pd g s).2.mu≤s.mu:=Nat.le_trans (nF hg _ _ _) (hg s)
theorem kB {g : PS→As × PS} (hg : ∀ s,(g s).2.mu≤s.mu) (a b : Wd) (s : PS) : (iG g a b s).2.mu≤s.mu :=
 Nat.le_trans (kk _) (Nat.le_trans (da _ _) (Nat.le_trans (hg _) (jj _ _)))
theorem Bi (s : PS) (b : Bool) : (s.cell b).2.mu≤s.mu:=by
 have h1:=Nat.le_trans (km (s.due [[40]])) (da _ s)
 have h2:=Nat.le_trans (mb _) (Nat.le_trans (da [[44]] _) h1)
 unfold PS.cell
 simp only
 split
 ·exact Nat.le_trans (da _ _) (Nat.le_trans (gS _) (Nat.le_trans (da _ _) h2))
 ·exact Nat.le_trans (da _ _) h2
theorem zJ {g : PS→As × PS} (hg : ∀ s,(g s).2.mu≤s.mu) (s : PS) : (uN g s).2.mu≤s.mu:=by
 unfold uN
 simp only
 split
 ·exact dF s
 split
 ·exact ut s
 split
 ·exact Nat.le_trans (Bi _ _) (dF s)
 split
 ·exact Nat.le_trans (kB hg _ _ _) (Nat.le_trans (da _ _) (Nat.le_trans (kB hg _ _ _) (Nat.le_trans (gR _) (dF s))))
 split
 ·exact kB hg _ _ _
 ·exact kN _ _
theorem nJ : ∀ (f : Nat) (s : PS),(wY f s).2.mu≤s.mu
 | 0,s=>Nat.le_refl _
 | f + 1,s=>zJ (qj (nJ f)) s
theorem lu (s : PS) : (nk s).2.mu≤s.mu:=qj (nJ FU) s
def PS.call (s : PS) : St × PS :=
 let x:=(s.due [[99,97,108,108]]).word 1
 let a:=(x.2.due [[40]]).exprs [59]
 let g:=(a.2.due [[59]]).exprs [41]
 (.mk 9 [] [] x.1 exZ exZ coZ asZ a.1 g.1 [] [] [],g.2.due [[41]])
def St.named (x : Wd) : St→St
 | .mk k _ f y e v c a rs gs fs b l=>.mk k x f y e v c a rs gs fs b l
def PS.set (s : PS) : St × PS :=
 let x:=s.word 1
 let s1:=x.2.due [[58,61]]
 if s1.is [103,101,116] then
  let p:=s1.drop.place
  (.mk 2 x.1 p.2.1 [] p.1 exZ coZ asZ [] [] [] [] [],p.2.2)
 else if s1.is [110,101,119] then
  let n:=(s1.drop.due [[40]]).word 1
  let r:=mR [44] (fun s=>s.word 1) FU [n.1] n.2
  (.mk 4 x.1 [] [] exZ exZ coZ asZ [] [] r.1 [] [],r.2.due [[41]])
 else if s1.is [99,97,108,108] then (s1.call.1.named x.1,s1.call.2)
 else
  let e:=fG s1
  (.mk 1 x.1 [] [] e.1 exZ coZ asZ [] [] [] [] [],e.2)
def mV (stmt : PS→St × PS) : Nat→List St→PS→List St × PS
 | 0,out,s=>(out,s)
 | f + 1,out,s=>if s.err.isNone && !s.is [125] then mV stmt f (out ++ [(stmt s).1]) (stmt s).2 else (out,s)
def qo (stmt : PS→St × PS) (s : PS) : List St × PS :=
 let p:=mV stmt FU [] (s.open' [123])
 (p.1,(p.2.due [[125]]).leave)
def rx (block : PS→List St × PS) (s : PS) : St × PS :=
 if s.is [115,107,105,112] then (stZ,s.drop.due [[59]])
 else if s.is [112,117,116] then
  let p:=s.drop.place
  let v:=fG (p.2.2.due [[58,61]])
  (.mk 3 [] p.2.1 [] p.1 v.1 coZ asZ [] [] [] [] [],v.2.due [[59]])
 else if s.is [102,114,101,101] then
  let p:=s.drop.place
  (.mk 5 [] p.2.1 [] p.1 exZ coZ asZ [] [] [] [] [],p.2.2.due [[59]])
 else if s.is [97,115,115,101,114,116] then
  let c:=lB s.drop
  (.mk 8 [] [] [] exZ exZ c.1 asZ [] [] [] [] [],c.2.due [[59]])
 else if s.is [99,97,108,108] then (s.call.1,s.call.2.due [[59]])
 else if s.kind 1 then (s.set.1,s.set.2.due [[59]])
 else if s.is [105,102] then
  let c:=lB s.drop
  let b:=block c.2
  let l:=block (b.2.due [[101,108,115,101]])
  (.mk 6 [] [] [] exZ exZ c.1 asZ [] [] [] b.1 l.1,l.2)
 else if s.is [119,104,105,108,101] then
  let c:=lB s.drop
  let a:=nk (c.2.due [[105,110,118,97,114,105,97,110,116]])
  let b:=block a.2
  (.mk 7 [] [] [] exZ exZ c.1 a.1 [] [] [] b.1 [],b.2)
 else (stZ,(s.fail 11).due [[59]])
def vp : Nat→PS→St × PS
 | 0,s=>(stZ,s)
 | f + 1,s=>rx (qo (vp f)) s
def ou (s : PS) : List St × PS:=qo (vp FU) s
def PS.proc (s : PS) : Pc × PS :=
 let x:=(s.due [[112,114,111,99]]).word 1
 let p:=(x.2.due [[40]]).names [59]
 let g:=(p.2.due [[59]]).names [41]
 let a:=nk (g.2.due [[41],[114,101,113,117,105,114,101,115]])
 let b:=nk (a.2.due [[101,110,115,117,114,101,115]])
 let c:=ou b.2
 (⟨x.1,p.1,g.1,a.1,b.1,c.1⟩,c.2)
def qZ : Nat→List Pc→PS→List Pc × PS
 | 0,out,s=>(out,s)
 | f + 1,out,s=>if s.err.isNone && !s.l.isEmpty then qZ f (out ++ [s.proc.1]) s.proc.2 else (out,s)
theorem uT (s : PS) (u : Wd) : (s.names u).2.mu≤s.mu:=by
 unfold PS.names;split
 ·exact Nat.le_refl _
 ·exact Nat.le_trans (pS (fun s=>gY s 1) _ _ _) (gY s 1)
theorem uF (s : PS) (u : Wd) : (s.exprs u).2.mu≤s.mu:=by
 unfold PS.exprs;split
 ·exact Nat.le_refl _
 ·exact Nat.le_trans (pS gS _ _ _) (gS s)
theorem sO {g : PS→St × PS} (hg : ∀ s,(g s).2.mu≤s.mu) : ∀ (f : Nat) (out : List St) (s : PS),(mV g f out s).2.mu≤s.mu
 | 0,out,s=>Nat.le_refl _
 | f + 1,out,s=>by
  unfold mV;split
  ·exact Nat.le_trans (sO hg f _ _) (hg _)
  ·exact Nat.le_refl _
theorem lW {g : PS→St × PS} (hg : ∀ s,(g s).2.mu≤s.mu) (s : PS) : (qo g s).2.mu≤s.mu :=
 Nat.le_trans (kk _) (Nat.le_trans (da _ _) (Nat.le_trans (sO hg _ _ _) (jj _ _)))
theorem sE {s : PS} (h : s.err = none) (w : Wd) (ws : List Wd) : (s.due (w :: ws)).mu < s.mu:=by
 have h0 : 0 < s.mu:=by unfold PS.mu;rw [h];simp
 unfold PS.due
 split
 ·rename_i hw
  have:=dI hw
  have:=da ws s.drop
  omega
 ·have : (s.fail 11).mu = 0:=by unfold PS.fail PS.mu;simp [h]
  omega
theorem th (s : PS) : s.call.2.mu≤(s.due [[99,97,108,108]]).mu:=by
 unfold PS.call
 simp only
 exact Nat.le_trans (da _ _) (Nat.le_trans (uF _ _) (Nat.le_trans (da _ _) (Nat.le_trans (uF _ _) (Nat.le_trans (da _ _) (gY _ _)))))
theorem At (s : PS) : s.set.2.mu≤(s.word 1).2.mu:=by
 have h1:=da [[58,61]] (s.word 1).2
 unfold PS.set
 simp only
 split
 ·exact Nat.le_trans (km _) (Nat.le_trans (dF _) h1)
 split
 ·exact Nat.le_trans (da _ _) (Nat.le_trans (pS (fun s=>gY s 1) _ _ _) (Nat.le_trans (gY _ _) (Nat.le_trans (da _ _) (Nat.le_trans (dF _) h1))))
 split
 ·exact Nat.le_trans (th _) (Nat.le_trans (da _ _) h1)
 ·exact Nat.le_trans (gS _) h1
theorem AF {g : PS→List St × PS} (hg : ∀ s,(g s).2.mu≤s.mu) {s : PS} (h : s.err = none) : (rx g s).2.mu < s.mu:=by
 unfold rx
 simp only
 split
 ·rename_i hw;have:=dI hw;have:=da [[59]] s.drop;(try simp only);omega
 split
 ·rename_i hw;have:=dI hw
  have:=Nat.le_trans (da [[59]] _) (Nat.le_trans (gS _) (Nat.le_trans (da [[58,61]] _) (km s.drop)));(try simp only);omega
 split
 ·rename_i hw;have:=dI hw
  have:=Nat.le_trans (da [[59]] _) (km s.drop);(try simp only);omega
 split
 ·rename_i hw;have:=dI hw
  have:=Nat.le_trans (da [[59]] _) (gR s.drop);(try simp only);omega
 split
 ·have:=sE h [99,97,108,108] []
  have:=Nat.le_trans (da [[59]] _) (th s);(try simp only);omega
 split
 ·rename_i hk
  have:=mL hk
  have:=Nat.le_trans (da [[59]] _) (At s);(try simp only);omega
 split
 ·rename_i hw;have:=dI hw
  have:=Nat.le_trans (hg _) (Nat.le_trans (da [[101,108,115,101]] _) (Nat.le_trans (hg _) (gR s.drop)));(try simp only);omega
 split
 ·rename_i hw;have:=dI hw
  have:=Nat.le_trans (hg _) (Nat.le_trans (lu _) (Nat.le_trans (da [[105,110,118,97,114,105,97,110,116]] _) (gR s.drop)));(try simp only);omega
 ·have h0 : 0 < s.mu:=by unfold PS.mu;rw [h];simp
  have h1 : (s.fail 11).mu = 0:=by unfold PS.fail PS.mu;simp [h]
  have:=da [[59]] (s.fail 11);(try simp only);omega
theorem AG {g : PS→List St × PS} (hg : ∀ s,(g s).2.mu≤s.mu) (s : PS) : (rx g s).2.mu≤s.mu:=by
 unfold rx
 simp only
 split
 ·exact Nat.le_trans (da _ _) (dF s)
 split
 ·exact Nat.le_trans (da [[59]] _) (Nat.le_trans (gS _) (Nat.le_trans (da [[58,61]] _) (Nat.le_trans (km s.drop) (dF s))))
 split
 ·exact Nat.le_trans (da [[59]] _) (Nat.le_trans (km s.drop) (dF s))
 split
 ·exact Nat.le_trans (da [[59]] _) (Nat.le_trans (gR s.drop) (dF s))
 split
 ·exact Nat.le_trans (da [[59]] _) (Nat.le_trans (th s) (da _ _))
 split
 ·exact Nat.le_trans (da [[59]] _) (Nat.le_trans (At s) (gY _ _))
 split
 ·exact Nat.le_trans (hg _) (Nat.le_trans (da _ _) (Nat.le_trans (hg _) (Nat.le_trans (gR s.drop) (dF s))))
 split
 ·exact Nat.le_trans (hg _) (Nat.le_trans (lu _) (Nat.le_trans (da _ _) (Nat.le_trans (gR s.drop) (dF s))))
 ·exact Nat.le_trans (da _ _) (kN _ _)
theorem kr : ∀ (f : Nat) (s : PS),(vp f s).2.mu≤s.mu
 | 0,s=>Nat.le_refl _
 | f + 1,s=>AG (lW (kr f)) s
theorem xN (s : PS) : (ou s).2.mu≤s.mu:=lW (kr FU) s
theorem Cl {s : PS} (h : s.err = none) : s.proc.2.mu < s.mu:=by
 have h1:=sE h [112,114,111,99] []
 have h2 : s.proc.2.mu≤(s.due [[112,114,111,99]]).mu:=by
  unfold PS.proc
  simp only
  exact Nat.le_trans (xN _) (Nat.le_trans (lu _) (Nat.le_trans (da _ _) (Nat.le_trans (lu _) (Nat.le_trans (da _ _) (Nat.le_trans (uT _ _) (Nat.le_trans (da _ _) (Nat.le_trans (uT _ _) (Nat.le_trans (da _ _) (gY _ _)))))))))
 omega
end Go.Proofs.YtkjnkkmokojnpaaGreatDoor
namespace Go.Proofs.YtkjnkkmokojnpaaGreatDoor
set_option linter.unusedSimpArgs false
set_option linter.unusedVariables false
open Go.RowKit
theorem ez (s : PS) (w : Wd) : AFn Tryz.prog 129 [.loc 20000 0,.sl [bs w] 1 .full] [pA s] (.tup []) [pA (s.due [w])]:=sv s [w] .full (by simp)
def eQ : Nat→List Nat
 | 0=>[0]
 | 1=>[0,2]
 | 2=>[0,2,4]
 | 3=>[0,2,4]
 | _=>[]
set_option maxRecDepth 100000 in
set_option maxHeartbeats 4000000 in
theorem pQ (s : PS) : AFn Tryz.prog 220 [.loc 20000 0] [pA s] (.tup [.agg (exA s.place.1),bs s.place.2.1]) [pA s.place.2.2]:=by
 unfold PS.place
 simp only
 have h1:=KM s
 generalize fG s = q at *
 obtain ⟨⟨k0,n0,x0,ks0⟩,s0⟩:=q
 have h2:=ez s0 [46]
 have h3:=kP (s0.due [[46]])
 generalize s0.due [[46]] = s1 at *
 generalize s1.word 1 = q1 at *
 simp only [exA] at h1 ⊢
 refine aC [] Tryz.func220 rfl Tryz.ntmps220 (Nat.le_of_ble_eq_true rfl) (Nat.le_of_ble_eq_true rfl) fun w0 G0 B0 Pr hB0=>?_
 simp only [aJ,aB,List.cons_append,List.nil_append]
 repeat' (first | (with_reducible refine hY _ ?_;clear hY Y) | ((with_reducible first | refine ar rfl (ay fun K' hK'=>aa ?_) | refine hK' _ (ab fun Y hY=>aa ?_) | refine ab fun Y hY=>aa ?_ | refine ae tk0 eQ (ab fun Y hY=>aa ?_) | refine aa ?_ | refine aq ?_ | refine cX rfl (dx fun K' hK'=>aa ?_) | refine hK' _ _ (ab fun Y hY=>aa ?_));(try clear hK' K');(try dsimp only [aop]);try simp only [go_sem,seval,eQ,Tryz.results220]) | (with_reducible first | refine ag ?_ | refine aj ?_ | refine am ?_ | refine aF fun K hK=>?_ | refine aA ?_ | refine bV ?_ | refine eS fun K hK=>?_) | (with_reducible refine hK _ ?_;clear hK K) | (with_reducible refine hK _ _ ?_ ?_;(· kernel_rfl);clear hK K) | (with_reducible refine bU tk0 eQ ?_ ?_;(· kernel_rfl)) | (with_reducible refine ac (h1) ?_) | (with_reducible refine ac (h2) ?_) | (with_reducible refine ac (h3) ?_))
 all_goals first | rfl | exact ⟨rfl,rfl⟩
def AsK (f : FuncId) (B : Nat) (g : PS→As × PS) : Prop:=∀ s : PS,s.mu < B→AFn Tryz.prog f [.loc 20000 0] [pA s] (.agg (asA (g s).1)) [pA (g s).2]
def dn : Nat→List Nat
 | 0=>[0]
 | 1=>[0,2]
 | 2=>[0,2,3]
 | 3=>[0,2,3]
 | 4=>[0,2,3,4]
 | 5=>[2,3]
 | _=>[]
set_option maxRecDepth 100000 in
set_option maxHeartbeats 8000000 in
theorem KP {B : Nat} {g : PS→As × PS} (hg : AsK 193 B g) (hmu : ∀ s,(g s).2.mu≤s.mu) : AsK 132 B (pd g):=by
 intro s hs
 obtain ⟨R,hR⟩ : ∃ R,R = pd g s:=⟨_,rfl⟩
 rw [← hR]
 unfold pd at hR
 have h1:=hg s hs
 have hm0:=jy (g s).2
 have hm1:=hmu s
 generalize g s = q at *
 obtain ⟨⟨k0,⟨ck0,ce0,cks0⟩,⟨ek0,en0,ex0,eks0⟩,⟨vk0,vn0,vx0,vks0⟩,f0,n0,ks0⟩,s0⟩:=q
 simp only [asA,coA,exA,List.cons_append,List.nil_append] at h1
 refine aC [] Tryz.func132 rfl Tryz.ntmps132 (Nat.le_of_ble_eq_true rfl) (Nat.le_of_ble_eq_true rfl) fun w0 G0 B0 Pr hB0=>?_
 simp only [aJ,aB,List.cons_append,List.nil_append]
 repeat' (first | (with_reducible refine hY _ ?_;clear hY Y) | ((with_reducible first | refine ar rfl (ay fun K' hK'=>aa ?_) | refine hK' _ (ab fun Y hY=>aa ?_) | refine ae tk0 dn (ab fun Y hY=>aa ?_) | refine aa ?_);(try clear hK' K');(try dsimp only [aop]);try simp only [go_sem,seval,dn,Tryz.results132]) | (with_reducible first | refine ag ?_ | refine aj ?_ | refine am ?_ | refine aF fun K hK=>?_ | refine ap ?_ | refine bW ?_) | (with_reducible refine hK _ ?_;clear hK K) | (with_reducible refine ac (h1) ?_))
 refine b9 (α:=Nat × As × PS) (fun p=>[(0,.loc 20000 0),(2,.loc 10002 0),(3,.loc 10003 0),(10002,.bc (asA asZ) 54),(10003,.bc (asA p.2.1) 54),(20000,pA p.2.2)])
  (fun p=>ll [38] (fun a b=>.mk 4 coZ exZ exZ [] 0 [a,b]) g p.1 p.2.1 p.2.2 = R∧p.2.2.mu < p.1∧p.2.2.mu < B) (fun p=>p.1) (FU,.mk k0 (.mk ck0 ce0 cks0) (.mk ek0 en0 ex0 eks0) (.mk vk0 vn0 vx0 vks0) f0 n0 ks0,s0) [0,2,3] ?_ ⟨hR.symm,hm0,Nat.lt_of_le_of_lt hm1 hs⟩ ?_
 ·simp only [go_sem,seval] <;> rfl
 rintro ⟨f,⟨k1,⟨ck1,ce1,cks1⟩,⟨ek1,en1,ex1,eks1⟩,⟨vk1,vn1,vx1,vks1⟩,f1,n1,ks1⟩,s1⟩ ⟨hgo,hmf,hmB⟩ ih
 simp only [asA,coA,exA,asZ,coZ,exZ,Bb,xP,jU,List.cons_append,List.nil_append] at ih hgo hmf hmB ⊢
 obtain ⟨f,rfl⟩ : ∃ f',f = f' + 1:=⟨f - 1,by omega⟩
 rw [ll] at hgo
 cases hc : s1.is [38]
 case true =>
  have h3:=eL hc
  have hm2:=dI hc
  have hm3:=hmu s1.drop
  have h4:=hg s1.drop (by omega)
  rw [if_pos hc] at hgo
  generalize g s1.drop = q2 at *
  obtain ⟨⟨k2,⟨ck2,ce2,cks2⟩,⟨ek2,en2,ex2,eks2⟩,⟨vk2,vn2,vx2,vks2⟩,f2,n2,ks2⟩,s2⟩:=q2
  simp only [asA,coA,exA,List.cons_append,List.nil_append] at h4 hgo hm3
  repeat' (first | (with_reducible refine hY _ ?_;clear hY Y) | ((with_reducible first | refine ar rfl (ay fun K' hK'=>aa ?_) | refine hK' _ (ab fun Y hY=>aa ?_) | refine ab fun Y hY=>aa ?_ | refine ae tk0 dn (ab fun Y hY=>aa ?_) | refine aa ?_);(try clear hK' K');(try dsimp only [aop]);try simp only [go_sem,seval,dn,Tryz.results132]) | (with_reducible first | refine ag ?_ | refine aj ?_ | refine am ?_ | refine aF fun K hK=>?_ | refine ax ?_ | refine aR ?_ | refine ap ?_ | refine aD ?_) | (with_reducible refine hK _ ?_;clear hK K) | ((with_reducible refine ai ?_ ?_);(· decide)) | (with_reducible refine ac (h3) ?_) | (with_reducible refine ac (h4) ?_))
  refine bi [0,2,3] (by simp only [go_sem,seval];exact rfl) ?_
  refine dd (ih (f,_,s2) ⟨hgo,by simp only;omega,by simp only;omega⟩ (by simp only;omega)) ?_
  rfl
 case false =>
  have h3:=fw hc
  rw [if_neg (by rw [hc];simp)] at hgo
  rw [← hgo]
  repeat' (first | (with_reducible refine hY _ ?_;clear hY Y) | ((with_reducible first | refine ar rfl (ay fun K' hK'=>aa ?_) | refine hK' _ (ab fun Y hY=>aa ?_) | refine ab fun Y hY=>aa ?_ | refine ae tk0 dn (ab fun Y hY=>aa ?_) | refine aa ?_ | refine aq ?_);(try clear hK' K');(try dsimp only [aop]);try simp only [go_sem,seval,dn,Tryz.results132]) | (with_reducible first | refine ag ?_ | refine aj ?_ | refine am ?_ | refine aF fun K hK=>?_ | refine av ?_ | refine cf ?_ | refine bI ?_ | refine aA ?_ | refine bH ?_) | (with_reducible refine hK _ ?_;clear hK K) | ((with_reducible refine ai ?_ ?_);(· decide)) | (with_reducible refine ac (h3) ?_))
  all_goals first | rfl | exact ⟨rfl,rfl⟩
def fW : Nat→List Nat
 | 0=>[0,1,2]
 | 1=>[0,1,2,6]
 | 2=>[0,2,6]
 | 3=>[0,2,6,7]
 | 4=>[0,6,7]
 | 5=>[6,7]
 | _=>[]
set_option maxRecDepth 100000 in
set_option maxHeartbeats 4000000 in
theorem qq {B : Nat} {g : PS→As × PS} (hg : AsK 132 B g) (a b : Wd) (s : PS) (hs : (s.open' a).mu < B) :
  AFn Tryz.prog 224 [.loc 20000 0,bs a,bs b] [pA s] (.agg (asA (iG g a b s).1)) [pA (iG g a b s).2]:=by
 have h1:=qX s a
 have h2:=hg (s.open' a) hs
 unfold iG
 simp only
 generalize s.open' a = s1 at *
 generalize g s1 = q at *
 obtain ⟨⟨k0,⟨ck0,ce0,cks0⟩,⟨ek0,en0,ex0,eks0⟩,⟨vk0,vn0,vx0,vks0⟩,f0,n0,ks0⟩,s0⟩:=q
 have h3:=ez s0 b
 have h4:=kM (s0.due [b])
 simp only [asA,coA,exA,List.cons_append,List.nil_append] at h2 ⊢
 generalize s0.due [b] = s5 at *
 refine aC [] Tryz.func224 rfl Tryz.ntmps224 (Nat.le_of_ble_eq_true rfl) (Nat.le_of_ble_eq_true rfl) fun w0 G0 B0 Pr hB0=>?_
 simp only [aJ,aB,List.cons_append,List.nil_append]
 repeat' (first | (with_reducible refine hY _ ?_;clear hY Y) | ((with_reducible first | refine ar rfl (ay fun K' hK'=>aa ?_) | refine hK' _ (ab fun Y hY=>aa ?_) | refine ae tk0 fW (ab fun Y hY=>aa ?_) | refine aa ?_ | refine aq ?_);(try clear hK' K');(try dsimp only [aop]);try simp only [go_sem,seval,fW,Tryz.results224]) | (with_reducible first | refine ag ?_ | refine aj ?_ | refine am ?_ | refine aF fun K hK=>?_ | refine aA ?_) | (with_reducible refine hK _ ?_;clear hK K) | (with_reducible refine ac (h1) ?_) | (with_reducible refine ac (h2) ?_) | (with_reducible refine ac (h3) ?_) | (with_reducible refine ac (h4) ?_))
 all_goals first | rfl | exact ⟨rfl,rfl⟩
def bE : Nat→List Nat
 | 0=>[0]
 | 1=>[0,2]
 | 2=>[0,2,3]
 | 3=>[0,2,3]
 | 4=>[0,2,3]
 | 5=>[0,2,3]
 | 6=>[0,2,3]
 | 7=>[0,2,3]
 | 8=>[0,2,3]
 | 9=>[0,2,3]
 | 10=>[0,2,3]
 | 11=>[0,2,3]
 | 12=>[0,2,3]
 | 13=>[0,2,3]
 | 14=>[0,2,3]
 | 15=>[0,2,3]
 | 16=>[0,2,3]
 | 17=>[0,2,3]
 | 18=>[0,2,3]
 | 19=>[0,2,3]
 | 20=>[0,2,3]
 | 21=>[0,2,3]
 | 22=>[0,2,3,4]
 | 23=>[0,2,3,4]
 | 24=>[0,2,3]
 | 25=>[0,2]
 | 26=>[2,3]
 | _=>[]
set_option maxRecDepth 100000 in
set_option maxHeartbeats 8000000 in
theorem Ea {B : Nat} {g : PS→As × PS} (hg : AsK 193 B g) (hmu : ∀ s,(g s).2.mu≤s.mu) : AsK 193 (B + 1) (uN (pd g)):=by
 intro s hs
 have ha:=KP hg hmu
 have hma:=qj hmu
 generalize pd g = o at *
 unfold uN
 cases c1 : s.is [101,109,112]
 case true =>
  simp only [if_true]
  have h1:=eL c1
  generalize s.drop = s1 at *
  refine aC [] Tryz.func193 rfl Tryz.ntmps193 (Nat.le_of_ble_eq_true rfl) (Nat.le_of_ble_eq_true rfl) fun w0 G0 B0 Pr hB0=>?_
  simp only [aJ,aB,List.cons_append,List.nil_append]
  repeat' (first | (with_reducible refine hY _ ?_;clear hY Y) | ((with_reducible first | refine ar rfl (ay fun K' hK'=>aa ?_) | refine hK' _ (ab fun Y hY=>aa ?_) | refine ab fun Y hY=>aa ?_ | refine ae tk0 bE (ab fun Y hY=>aa ?_) | refine aa ?_ | refine aq ?_);(try clear hK' K');(try dsimp only [aop]);try simp only [go_sem,seval,bE,Tryz.results193]) | (with_reducible first | refine ag ?_ | refine aj ?_ | refine am ?_ | refine aF fun K hK=>?_ | refine ax ?_ | refine aR ?_ | refine ap ?_ | refine aD ?_ | refine aA ?_) | (with_reducible refine hK _ ?_;clear hK K) | ((with_reducible refine ai ?_ ?_);(· decide)) | (with_reducible refine ac (h1) ?_))
  all_goals first | rfl | exact ⟨rfl,rfl⟩
 simp only [Bool.false_eq_true,if_false]
 have h1:=fw c1
 cases c2 : s.is [91]
 case true =>
  simp only [if_true]
  have h2:=mJ c2
  have h3:=xO s
  generalize lA s = q at *
  obtain ⟨⟨k0,e0,ks0⟩,s0⟩:=q
  simp only [coA] at h3
  refine aC [] Tryz.func193 rfl Tryz.ntmps193 (Nat.le_of_ble_eq_true rfl) (Nat.le_of_ble_eq_true rfl) fun w0 G0 B0 Pr hB0=>?_
  simp only [aJ,aB,List.cons_append,List.nil_append]
  repeat' (first | (with_reducible refine hY _ ?_;clear hY Y) | ((with_reducible first | refine ar rfl (ay fun K' hK'=>aa ?_) | refine hK' _ (ab fun Y hY=>aa ?_) | refine ab fun Y hY=>aa ?_ | refine ae tk0 bE (ab fun Y hY=>aa ?_) | refine aa ?_ | refine aq ?_);(try clear hK' K');(try dsimp only [aop]);try simp only [go_sem,seval,bE,Tryz.results193]) | (with_reducible first | refine ag ?_ | refine aj ?_ | refine am ?_ | refine aF fun K hK=>?_ | refine ax ?_ | refine av ?_ | refine aR ?_ | refine ap ?_ | refine aA ?_) | (with_reducible refine hK _ ?_;clear hK K) | ((with_reducible refine ai ?_ ?_);(· decide)) | (with_reducible refine ac (h1) ?_) | (with_reducible refine ac (h2) ?_) | (with_reducible refine ac (h3) ?_))
  all_goals first | rfl | exact ⟨rfl,rfl⟩
 simp only [Bool.false_eq_true,if_false]
 have h2:=nH c2
 cases c3 : (s.is [97,99,99] || s.is [112,116,115])
 case true =>
  simp only [if_true]
  have hc' : ∃ w,s.is w = true:=by
   rcases Bool.or_eq_true _ _ |>.mp c3 with h | h
   ·exact ⟨_,h⟩
   ·exact ⟨_,h⟩
  obtain ⟨w,hw⟩:=hc'
  have h3:=qJ s [97,99,99]
  have h4:=qJ s [112,116,115]
  have hd1:=wO hw
  have hd2:=uC hw
  have hd3:=wP hw
  have hd4:=jv (f:=nd) (k:=3) (fun _=>rfl) s.l
  have h5:=ez s.drop [40]
  rw [xh] at h5
  unfold PS.cell
  simp only
  clear hw hs
  generalize s.drop = s1 at *
  have h6:=pQ (s1.due [[40]])
  generalize s1.due [[40]] = s2 at *
  generalize s2.place = q at *
  obtain ⟨⟨ek0,en0,ex0,eks0⟩,f0,s3⟩:=q
  have h7:=ez s3 [44]
  have h8:=qW (s3.due [[44]])
  simp only at h7 h8 ⊢
  generalize s3.due [[44]] = s4 at *
  generalize s4.number = q2 at *
  obtain ⟨n0,s5⟩:=q2
  simp only [exA] at h6 h8 ⊢
  generalize s.is [97,99,99] = b1 at *
  generalize s.is [112,116,115] = b2 at *
  cases b2
  ·have h9:=ez s5 [41]
   simp only [Bool.false_eq_true,if_false]
   generalize s5.due [[41]] = s6 at *
   cases b1
   ·cases c3
   ·refine aC [] Tryz.func193 rfl Tryz.ntmps193 (Nat.le_of_ble_eq_true rfl) (Nat.le_of_ble_eq_true rfl) fun w0 G0 B0 Pr hB0=>?_
    simp only [aJ,aB,List.cons_append,List.nil_append]
    repeat' (first | (with_reducible refine hY _ ?_;clear hY Y) | ((with_reducible first | refine ar rfl (ay fun K' hK'=>aa ?_) | refine hK' _ (ab fun Y hY=>aa ?_) | refine ba rfl (ab fun Y hY=>aa ?_) | refine ab fun Y hY=>aa ?_ | refine ae tk0 bE (ab fun Y hY=>aa ?_) | refine aa ?_ | refine aq ?_);(try clear hK' K');(try dsimp only [aop]);try simp only [go_sem,seval,bE,Tryz.results193,hd1,hd2,hd3,hd4]) | (with_reducible first | refine ag ?_ | refine aW rfl ?_ | refine dc ?_ ?_ | refine aj ?_ | refine am ?_ | refine aF fun K hK=>?_ | refine ax ?_ | refine av ?_ | refine aR ?_ | refine ap ?_ | refine aD ?_ | refine aA ?_) | (with_reducible refine hK _ ?_;clear hK K) | ((with_reducible first | refine aI ?_ ?_ | refine ai ?_ ?_);(· decide)) | (with_reducible refine ac (h1) ?_) | (with_reducible refine ac (h2) ?_) | (with_reducible refine ac (h3) ?_) | (with_reducible refine ac (h4) ?_) | (with_reducible refine ac (h5) ?_) | (with_reducible refine ac (h6) ?_) | (with_reducible refine ac (h7) ?_) | (with_reducible refine ac (h8) ?_) | (with_reducible refine ac (h9) ?_))
    all_goals first | rfl | exact ⟨rfl,rfl⟩
  ·have h9:=ez s5 [44]
   have h10:=KM (s5.due [[44]])
   simp only [if_true]
   generalize s5.due [[44]] = s6 at *
   generalize fG s6 = q3 at *
   obtain ⟨⟨vk0,vn0,vx0,vks0⟩,s7⟩:=q3
   have h11:=ez s7 [41]
   simp only [exA] at h10 ⊢
   generalize s7.due [[41]] = s8 at *
   cases b1
   all_goals (
    refine aC [] Tryz.func193 rfl Tryz.ntmps193 (Nat.le_of_ble_eq_true rfl) (Nat.le_of_ble_eq_true rfl) fun w0 G0 B0 Pr hB0=>?_
    simp only [aJ,aB,List.cons_append,List.nil_append]
    repeat' (first | (with_reducible refine hY _ ?_;clear hY Y) | ((with_reducible first | refine ar rfl (ay fun K' hK'=>aa ?_) | refine hK' _ (ab fun Y hY=>aa ?_) | refine ba rfl (ab fun Y hY=>aa ?_) | refine ab fun Y hY=>aa ?_ | refine ay fun K' hK'=>aa ?_ | refine ae tk0 bE (ab fun Y hY=>aa ?_) | refine aa ?_ | refine aq ?_);(try clear hK' K');(try dsimp only [aop]);try simp only [go_sem,seval,bE,Tryz.results193,hd1,hd2,hd3,hd4]) | (with_reducible first | refine ag ?_ | refine aW rfl ?_ | refine aK ?_ | refine dc ?_ ?_ | refine aj ?_ | refine am ?_ | refine aF fun K hK=>?_ | refine ax ?_ | refine av ?_ | refine aR ?_ | refine ap ?_ | refine aA ?_) | (with_reducible refine hK _ ?_;clear hK K) | ((with_reducible first | refine aI ?_ ?_ | refine ai ?_ ?_);(· decide)) | (with_reducible refine ac (h1) ?_) | (with_reducible refine ac (h2) ?_) | (with_reducible refine ac (h3) ?_) | (with_reducible refine ac (h4) ?_) | (with_reducible refine ac (h5) ?_) | (with_reducible refine ac (h6) ?_) | (with_reducible refine ac (h7) ?_) | (with_reducible refine ac (h8) ?_) | (with_reducible refine ac (h9) ?_) | (with_reducible refine ac (h10) ?_) | (with_reducible refine ac (h11) ?_))
    all_goals first | rfl | exact ⟨rfl,rfl⟩)
 simp only [Bool.false_eq_true,if_false]
 obtain ⟨c31,c32⟩:=Bool.or_eq_false_iff.1 c3
 have h3:=nH c31
 have h4:=nH c32
 cases c4 : s.is [105,102]
 case true =>
  simp only [if_true]
  have h5:=eL c4
  have hm1:=dI c4
  have h6:=KN s.drop
  have hm2:=gR s.drop
  generalize s.drop = s1 at *
  generalize lB s1 = q at *
  obtain ⟨⟨k0,e0,ks0⟩,s2⟩:=q
  simp only at hm2 h6 ⊢
  have hm3:=jj s2 [123]
  have h7:=qq ha [123] [125] s2 (by omega)
  have hm4:=kB hma [123] [125] s2
  generalize iG o [123] [125] s2 = q2 at *
  obtain ⟨⟨xk,⟨xck,xce,xcks⟩,⟨xek,xen,xex,xeks⟩,⟨xvk,xvn,xvx,xvks⟩,xf,xn,xks⟩,s3⟩:=q2
  have h8:=ez s3 [101,108,115,101]
  have hm5:=da [[101,108,115,101]] s3
  simp only at hm4 hm5 h8 ⊢
  generalize s3.due [[101,108,115,101]] = s4 at *
  have hm6:=jj s4 [123]
  have h9:=qq ha [123] [125] s4 (by omega)
  generalize iG o [123] [125] s4 = q3 at *
  obtain ⟨⟨yk,⟨yck,yce,ycks⟩,⟨yek,yen,yex,yeks⟩,⟨yvk,yvn,yvx,yvks⟩,yf,yn,yks⟩,s5⟩:=q3
  simp only [asA,coA,exA,List.cons_append,List.nil_append] at h6 h7 h9 ⊢
  refine aC [] Tryz.func193 rfl Tryz.ntmps193 (Nat.le_of_ble_eq_true rfl) (Nat.le_of_ble_eq_true rfl) fun w0 G0 B0 Pr hB0=>?_
  simp only [aJ,aB,List.cons_append,List.nil_append]
  repeat' (first | (with_reducible refine hY _ ?_;clear hY Y) | ((with_reducible first | refine ar rfl (ay fun K' hK'=>aa ?_) | refine hK' _ (ab fun Y hY=>aa ?_) | refine ba rfl (ab fun Y hY=>aa ?_) | refine ab fun Y hY=>aa ?_ | refine ay fun K' hK'=>aa ?_ | refine ae tk0 bE (ab fun Y hY=>aa ?_) | refine aa ?_ | refine aq ?_ | refine cX rfl (dx fun K' hK'=>aa ?_) | refine hK' _ _ (ab fun Y hY=>aa ?_));(try clear hK' K');(try dsimp only [aop]);try simp only [go_sem,seval,bE,Tryz.results193]) | (with_reducible first | refine ag ?_ | refine aK ?_ | refine aj ?_ | refine am ?_ | refine aF fun K hK=>?_ | refine ax ?_ | refine av ?_ | refine aR ?_ | refine ap ?_ | refine aA ?_ | refine bV ?_ | refine eS fun K hK=>?_) | (with_reducible refine hK _ ?_;clear hK K) | (with_reducible refine hK _ _ ?_ ?_;(· kernel_rfl);clear hK K) | ((with_reducible first | refine aI ?_ ?_ | refine ai ?_ ?_);(· decide)) | (with_reducible refine bU tk0 bE ?_ ?_;(· kernel_rfl)) | (with_reducible refine ac (h1) ?_) | (with_reducible refine ac (h2) ?_) | (with_reducible refine ac (h3) ?_) | (with_reducible refine ac (h4) ?_) | (with_reducible refine ac (h5) ?_) | (with_reducible refine ac (h6) ?_) | (with_reducible refine ac (h7) ?_) | (with_reducible refine ac (h8) ?_) | (with_reducible refine ac (h9) ?_))
  all_goals first | rfl | exact ⟨rfl,rfl⟩
 simp only [Bool.false_eq_true,if_false]
 have h5:=fw c4
 cases c5 : s.is [40]
 case true =>
  simp only [if_true]
  have h6:=mJ c5
  have hm1:=kO c5
  have h7:=qq ha [40] [41] s (by omega)
  generalize iG o [40] [41] s = q3 at *
  obtain ⟨⟨yk,⟨yck,yce,ycks⟩,⟨yek,yen,yex,yeks⟩,⟨yvk,yvn,yvx,yvks⟩,yf,yn,yks⟩,s5⟩:=q3
  simp only [asA,coA,exA,List.cons_append,List.nil_append] at h7 ⊢
  refine aC [] Tryz.func193 rfl Tryz.ntmps193 (Nat.le_of_ble_eq_true rfl) (Nat.le_of_ble_eq_true rfl) fun w0 G0 B0 Pr hB0=>?_
  simp only [aJ,aB,List.cons_append,List.nil_append]
  repeat' (first | (with_reducible refine hY _ ?_;clear hY Y) | ((with_reducible first | refine ar rfl (ay fun K' hK'=>aa ?_) | refine hK' _ (ab fun Y hY=>aa ?_) | refine ba rfl (ab fun Y hY=>aa ?_) | refine ab fun Y hY=>aa ?_ | refine ay fun K' hK'=>aa ?_ | refine ae tk0 bE (ab fun Y hY=>aa ?_) | refine aa ?_ | refine aq ?_);(try clear hK' K');(try dsimp only [aop]);try simp only [go_sem,seval,bE,Tryz.results193]) | (with_reducible first | refine ag ?_ | refine aK ?_ | refine aj ?_ | refine am ?_ | refine aF fun K hK=>?_ | refine ax ?_ | refine av ?_ | refine aZ ?_ | refine bh ?_ | refine ap ?_ | refine aA ?_) | (with_reducible refine hK _ ?_;clear hK K) | ((with_reducible first | refine aI ?_ ?_ | refine ai ?_ ?_);(· decide)) | (with_reducible refine ac (h1) ?_) | (with_reducible refine ac (h2) ?_) | (with_reducible refine ac (h3) ?_) | (with_reducible refine ac (h4) ?_) | (with_reducible refine ac (h5) ?_) | (with_reducible refine ac (h6) ?_) | (with_reducible refine ac (h7) ?_))
  all_goals first | rfl | exact ⟨rfl,rfl⟩
 simp only [Bool.false_eq_true,if_false]
 have h6:=nH c5
 have h7:=mH s 11
 generalize s.fail 11 = s1 at *
 refine aC [] Tryz.func193 rfl Tryz.ntmps193 (Nat.le_of_ble_eq_true rfl) (Nat.le_of_ble_eq_true rfl) fun w0 G0 B0 Pr hB0=>?_
 simp only [aJ,aB,List.cons_append,List.nil_append]
 repeat' (first | (with_reducible refine hY _ ?_;clear hY Y) | ((with_reducible first | refine ar rfl (ay fun K' hK'=>aa ?_) | refine hK' _ (ab fun Y hY=>aa ?_) | refine ba rfl (ab fun Y hY=>aa ?_) | refine ab fun Y hY=>aa ?_ | refine ay fun K' hK'=>aa ?_ | refine ae tk0 bE (ab fun Y hY=>aa ?_) | refine aa ?_ | refine aq ?_);(try clear hK' K');(try dsimp only [aop]);try simp only [go_sem,seval,bE,Tryz.results193]) | (with_reducible first | refine ag ?_ | refine aK ?_ | refine aj ?_ | refine am ?_ | refine aF fun K hK=>?_ | refine av ?_ | refine aR ?_ | refine ap ?_ | refine aA ?_) | (with_reducible refine hK _ ?_;clear hK K) | ((with_reducible first | refine aI ?_ ?_ | refine ai ?_ ?_);(· decide)) | (with_reducible refine ac (h1) ?_) | (with_reducible refine ac (h2) ?_) | (with_reducible refine ac (h3) ?_) | (with_reducible refine ac (h4) ?_) | (with_reducible refine ac (h5) ?_) | (with_reducible refine ac (h6) ?_) | (with_reducible refine ac (h7) ?_))
 all_goals first | rfl | exact ⟨rfl,rfl⟩
theorem zK : ∀ f,AsK 193 f (wY f)
 | 0=>fun s hs=>absurd hs (Nat.not_lt_zero _)
 | f + 1=>Ea (zK f) (nJ f)
theorem KO (s : PS) : AFn Tryz.prog 132 [.loc 20000 0] [pA s] (.agg (asA (nk s).1)) [pA (nk s).2] :=
 KP (zK FU) (nJ FU) s (jy s)
end Go.Proofs.YtkjnkkmokojnpaaGreatDoor
