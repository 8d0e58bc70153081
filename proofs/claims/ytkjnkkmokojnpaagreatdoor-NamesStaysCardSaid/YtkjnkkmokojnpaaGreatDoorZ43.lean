/- The document's texts in K: assertions. The document's texts in K: rows, statements, blocks. -/
import Derived.Test.YtkjnkkmokojnpaaGreatDoorZ42
namespace Go.Proofs.YtkjnkkmokojnpaaGreatDoor
set_option linter.unusedSimpArgs false
set_option linter.unusedVariables false
open Go.RowKit
structure TxA (a : PA) : Prop where
 len : (bb (tkA a)).length ≤ 1000000000000
 tells : AFn Tryz.prog 32 [.agg (paA a)] [] (bs (bb (tkA a))) []
structure PaC (k : Int) (c : PC) (e v : PE) (f : Wd) (n : Int) (ks : List PA) (A : List AV) : Prop where
 one : eu A = true
 len : A.length = 15
 g0 : A.getD 0 .u = inA k
 s1 : (A.drop 1).take 3 = ci c
 s4 : (A.drop 4).take 4 = peA e
 s8 : (A.drop 8).take 4 = peA v
 g12 : A.getD 12 .u = bs f
 g13 : A.getD 13 .u = inA n
 g14 : A.getD 14 .u = .sl (ew ks) ks.length .none
theorem paC (k : Int) (c : PC) (e v : PE) (f : Wd) (n : Int) (ks : List PA) : PaC k c e v f n ks (paA (.mk k c e v f n ks)) := by
 obtain ⟨ck,ce,cks⟩ := c
 obtain ⟨ek,en,ex,eks⟩ := e
 obtain ⟨vk,vn,vx,vks⟩ := v
 constructor <;> simp [paA,ci,peA,eu,AV.one,Value.oneCell']
theorem Dm (a : PA) (r : List AV) : (paA a ++ r).getD 0 .u = inA a.kind := by
 obtain ⟨k,c,e,v,f,n,ks⟩ := a
 simp [paA,PA.kind]
theorem yZ (a b : PA) : (paA a ++ paA b).getD 15 .u = inA b.kind := by
 have h := eZ a
 rw [List.getD_eq_getElem?_getD,List.getElem?_append_right (by omega),h]
 have := Dm b []
 rw [List.append_nil,List.getD_eq_getElem?_getD] at this
 exact this
def bq : Nat → List Nat
 | 0 => [0]
 | 1 => [1]
 | 2 => [1,5]
 | 3 => []
 | 4 => [1,5]
 | 5 => [1]
 | 6 => [1,5]
 | 7 => [1]
 | 8 => [1,5]
 | 9 => [1]
 | 10 => [1,5]
 | 11 => [1]
 | 12 => [1,3]
 | 13 => [1,3]
 | 14 => [1,3]
 | 15 => [1]
 | _ => []
set_option maxRecDepth 100000 in
set_option maxHeartbeats 8000000 in
theorem BH (c : PC) (e v : PE) (f : Wd) (n : Int) (ks : List PA) : AFn Tryz.prog 32 [.agg (paA (.mk 0 c e v f n ks))] [] (bs (bb (tkA (.mk 0 c e v f n ks)))) [] := by
 have : bb (tkA (.mk 0 c e v f n ks)) = [101,109,112] := by rw [tkA]; rfl
 rw [this]
 obtain ⟨one,len,g0,s1,s4,s8,g12,g13,g14⟩ := paC 0 c e v f n ks
 generalize paA (.mk 0 c e v f n ks) = AC at *
 refine aM [] Tryz.func32 rfl Tryz.ntmps32 (Nat.le_of_ble_eq_true rfl) (Nat.le_of_ble_eq_true rfl) fun w0 G0 B0 Pr hB0 => ?_
 simp only [aW,aL,List.cons_append,List.nil_append]
 repeat' (first | (with_reducible refine hY _ ?_; clear hY Y) | ((with_reducible first | refine au rfl (ay fun K' hK' => aa ?_) | refine hK' _ (ab fun Y hY => aa ?_) | refine ab fun Y hY => aa ?_ | refine ac tk0 bq (ab fun Y hY => aa ?_) | refine aa ?_ | refine ax ?_); (try clear hK' K'); (try dsimp only [aop]); try simp only [go_sem,seval,bq,Tryz.results32,one,len,g0]) | (with_reducible first | refine ag ?_ | refine am ?_ | refine aq ?_ | refine aG fun K hK => ?_ | refine az ?_ | refine bh ?_ | refine bp ?_ | refine av ?_ | refine aB ?_) | (with_reducible refine hK _ ?_; clear hK K) | ((with_reducible refine ai ?_ ?_); (· decide)))
set_option maxRecDepth 100000 in
set_option maxHeartbeats 8000000 in
theorem BI (c : PC) (e v : PE) (f : Wd) (n : Int) (ks : List PA) (hc : TxC c) : AFn Tryz.prog 32 [.agg (paA (.mk 1 c e v f n ks))] [] (bs (bb (tkA (.mk 1 c e v f n ks)))) [] := by
 rw [Ey]
 obtain ⟨one,len,g0,s1,s4,s8,g12,g13,g14⟩ := paC 1 c e v f n ks
 obtain ⟨lc,cc⟩ := hc
 have nc := (eE c).nm3
 have rc := (eE c).rn3
 generalize paA (.mk 1 c e v f n ks) = AC at *
 generalize ci c = CC at *
 generalize bb (tkC c) = TC at *
 refine aM [] Tryz.func32 rfl Tryz.ntmps32 (Nat.le_of_ble_eq_true rfl) (Nat.le_of_ble_eq_true rfl) fun w0 G0 B0 Pr hB0 => ?_
 simp only [aW,aL,List.cons_append,List.nil_append]
 repeat' (first | (with_reducible refine hY _ ?_; clear hY Y) | ((with_reducible first | refine au rfl (ay fun K' hK' => aa ?_) | refine hK' _ (ab fun Y hY => aa ?_) | refine ab fun Y hY => aa ?_ | refine ac tk0 bq (ab fun Y hY => aa ?_) | refine aa ?_ | refine ax ?_); (try clear hK' K'); (try dsimp only [aop]); try simp only [go_sem,seval,bq,Tryz.results32,one,len,g0,s1,nc,rc]) | (with_reducible first | refine ag ?_ | refine am ?_ | refine aq ?_ | refine aG fun K hK => ?_ | refine az ?_ | refine aA ?_ | refine bh ?_ | refine bp ?_ | refine av ?_ | refine aB ?_) | (with_reducible refine hK _ ?_; clear hK K) | ((with_reducible refine ai ?_ ?_); (· decide)) | (with_reducible refine ae (cc) ?_) | (with_reducible refine bv (cD _ _ ?_) ?_; (· (try simp only [List.length_append,List.length_cons,List.length_nil]); omega)))
set_option maxRecDepth 100000 in
set_option maxHeartbeats 8000000 in
theorem BJ (c : PC) (e v : PE) (f : Wd) (n : Int) (ks : List PA) (he : TxE e) (hf : f.length ≤ 1000000000000) (hn : iC n = true) : AFn Tryz.prog 32 [.agg (paA (.mk 2 c e v f n ks))] [] (bs (bb (tkA (.mk 2 c e v f n ks)))) [] := by
 rw [Ez]
 obtain ⟨one,len,g0,s1,s4,s8,g12,g13,g14⟩ := paC 2 c e v f n ks
 obtain ⟨lc,cc⟩ := he
 have nc := (dF e).nm3
 have rc := (dF e).rn3
 have ln := uZ hn
 have cn := mM hn
 generalize paA (.mk 2 c e v f n ks) = AC at *
 generalize peA e = CC at *
 generalize bb (tkE e) = TC at *
 generalize dg n = D at *
 refine aM [] Tryz.func32 rfl Tryz.ntmps32 (Nat.le_of_ble_eq_true rfl) (Nat.le_of_ble_eq_true rfl) fun w0 G0 B0 Pr hB0 => ?_
 simp only [aW,aL,List.cons_append,List.nil_append]
 repeat' (first | (with_reducible refine hY _ ?_; clear hY Y) | ((with_reducible first | refine au rfl (ay fun K' hK' => aa ?_) | refine hK' _ (ab fun Y hY => aa ?_) | refine ab fun Y hY => aa ?_ | refine ac tk0 bq (ab fun Y hY => aa ?_) | refine aa ?_ | refine ax ?_ | refine cG rfl (cQ fun K' hK' => aa ?_) | refine hK' _ _ (ab fun Y hY => aa ?_)); (try clear hK' K'); (try dsimp only [aop]); try simp only [go_sem,seval,bq,Tryz.results32,one,len,g0,s4,g12,g13,nc,rc]) | (with_reducible first | refine ag ?_ | refine am ?_ | refine aq ?_ | refine aG fun K hK => ?_ | refine az ?_ | refine aA ?_ | refine bh ?_ | refine bp ?_ | refine av ?_ | refine aB ?_ | refine bK ?_ | refine ef fun K hK => ?_) | (with_reducible refine hK _ ?_; clear hK K) | (with_reducible refine hK _ _ ?_ ?_; (· kernel_rfl); clear hK K) | ((with_reducible refine ai ?_ ?_); (· decide)) | (with_reducible refine bV tk0 bq ?_ ?_; (· kernel_rfl)) | (with_reducible refine ae (cc) ?_) | (with_reducible refine ae (cn) ?_) | (with_reducible refine bv (cD _ _ ?_) ?_; (· (try simp only [List.length_append,List.length_cons,List.length_nil]); omega)))
set_option maxRecDepth 100000 in
set_option maxHeartbeats 8000000 in
theorem BK (c : PC) (e v : PE) (f : Wd) (n : Int) (ks : List PA) (he : TxE e) (hv : TxE v) (hf : f.length ≤ 1000000000000) (hn : iC n = true) : AFn Tryz.prog 32 [.agg (paA (.mk 3 c e v f n ks))] [] (bs (bb (tkA (.mk 3 c e v f n ks)))) [] := by
 rw [EB]
 obtain ⟨one,len,g0,s1,s4,s8,g12,g13,g14⟩ := paC 3 c e v f n ks
 obtain ⟨lc,cc⟩ := he
 have nc := (dF e).nm3
 have rc := (dF e).rn3
 obtain ⟨lv,cv⟩ := hv
 have nv := (dF v).nm3
 have rv := (dF v).rn3
 have ln := uZ hn
 have cn := mM hn
 generalize paA (.mk 3 c e v f n ks) = AC at *
 generalize peA e = CC at *
 generalize bb (tkE e) = TC at *
 generalize peA v = CV at *
 generalize bb (tkE v) = TV at *
 generalize dg n = D at *
 refine aM [] Tryz.func32 rfl Tryz.ntmps32 (Nat.le_of_ble_eq_true rfl) (Nat.le_of_ble_eq_true rfl) fun w0 G0 B0 Pr hB0 => ?_
 simp only [aW,aL,List.cons_append,List.nil_append]
 repeat' (first | (with_reducible refine hY _ ?_; clear hY Y) | ((with_reducible first | refine au rfl (ay fun K' hK' => aa ?_) | refine hK' _ (ab fun Y hY => aa ?_) | refine ab fun Y hY => aa ?_ | refine ac tk0 bq (ab fun Y hY => aa ?_) | refine aa ?_ | refine ax ?_ | refine cG rfl (cQ fun K' hK' => aa ?_) | refine hK' _ _ (ab fun Y hY => aa ?_)); (try clear hK' K'); (try dsimp only [aop]); try simp only [go_sem,seval,bq,Tryz.results32,one,len,g0,s4,s8,g12,g13,nc,rc,nv,rv]) | (with_reducible first | refine ag ?_ | refine am ?_ | refine aq ?_ | refine aG fun K hK => ?_ | refine az ?_ | refine aA ?_ | refine bh ?_ | refine bp ?_ | refine av ?_ | refine aB ?_ | refine bK ?_ | refine ef fun K hK => ?_) | (with_reducible refine hK _ ?_; clear hK K) | (with_reducible refine hK _ _ ?_ ?_; (· kernel_rfl); clear hK K) | ((with_reducible refine ai ?_ ?_); (· decide)) | (with_reducible refine bV tk0 bq ?_ ?_; (· kernel_rfl)) | (with_reducible refine ae (cc) ?_) | (with_reducible refine ae (cv) ?_) | (with_reducible refine ae (cn) ?_) | (with_reducible refine bv (cD _ _ ?_) ?_; (· (try simp only [List.length_append,List.length_cons,List.length_nil]); omega)))
set_option maxRecDepth 100000 in
set_option maxHeartbeats 8000000 in
theorem BL (c : PC) (e v : PE) (f : Wd) (n : Int) (a b : PA) (ha : TxA a) (hb : TxA b) : AFn Tryz.prog 32 [.agg (paA (.mk 4 c e v f n [a,b]))] [] (bs (bb (tkA (.mk 4 c e v f n [a,b])))) [] := by
 rw [ED]
 obtain ⟨one,len,g0,s1,s4,s8,g12,g13,g14⟩ := paC 4 c e v f n [a,b]
 have e2 : ew [a,b] = paA a ++ paA b := by simp [ew]
 rw [e2] at g14
 obtain ⟨q1,q2,q3⟩ := rR (eZ a) (eZ b)
 have na := (dP a).nm3
 have ra := (dP a).rn3
 have nb := (dP b).nm3
 have rb := (dP b).rn3
 have q4 := yZ a b
 obtain ⟨la,ca⟩ := ha
 obtain ⟨lb,cb⟩ := hb
 have g14' : (paA (.mk 4 c e v f n [a,b])).getD 14 .u = .sl (paA a ++ paA b) 2 .none := g14
 clear g14 e2
 generalize paA (.mk 4 c e v f n [a,b]) = AC at *
 generalize paA a ++ paA b = KS at *
 generalize paA a = A at *
 generalize paA b = B at *
 generalize bb (tkA a) = TA at *
 generalize bb (tkA b) = TB at *
 generalize b.kind = bk at *
 by_cases h4 : bk = 4
 ·have k4 : (bk = 4) = True := eq_true h4
  rw [if_pos h4]
  refine aM [] Tryz.func32 rfl Tryz.ntmps32 (Nat.le_of_ble_eq_true rfl) (Nat.le_of_ble_eq_true rfl) fun w0 G0 B0 Pr hB0 => ?_
  simp only [aW,aL,List.cons_append,List.nil_append]
  repeat' (first | (with_reducible refine hY _ ?_; clear hY Y) | ((with_reducible first | refine au rfl (ay fun K' hK' => aa ?_) | refine hK' _ (ab fun Y hY => aa ?_) | refine ab fun Y hY => aa ?_ | refine ac tk0 bq (ab fun Y hY => aa ?_) | refine aa ?_ | refine ax ?_); (try clear hK' K'); (try dsimp only [aop]); try simp only [go_sem,seval,bq,Tryz.results32,one,len,g0,g14',q1,q2,q3,q4,k4,na,ra,nb,rb]) | (with_reducible first | refine ag ?_ | refine am ?_ | refine aq ?_ | refine aG fun K hK => ?_ | refine az ?_ | refine aA ?_ | refine bh ?_ | refine bp ?_ | refine av ?_ | refine aB ?_) | (with_reducible refine hK _ ?_; clear hK K) | ((with_reducible refine ai ?_ ?_); (· decide)) | (with_reducible refine bm ?_ ?_; (· (try and_intros) <;> first | omega | assumption | (simp only [List.length_append,List.length_map,List.length_cons,List.length_nil] <;> omega))) | (with_reducible refine ae (ca) ?_) | (with_reducible refine ae (cb) ?_) | (with_reducible refine bv (cD _ _ ?_) ?_; (· (try simp only [List.length_append,List.length_cons,List.length_nil]); omega)))
 ·have k4 : (bk = 4) = False := eq_false h4
  rw [if_neg h4]
  refine aM [] Tryz.func32 rfl Tryz.ntmps32 (Nat.le_of_ble_eq_true rfl) (Nat.le_of_ble_eq_true rfl) fun w0 G0 B0 Pr hB0 => ?_
  simp only [aW,aL,List.cons_append,List.nil_append]
  repeat' (first | (with_reducible refine hY _ ?_; clear hY Y) | ((with_reducible first | refine au rfl (ay fun K' hK' => aa ?_) | refine hK' _ (ab fun Y hY => aa ?_) | refine ab fun Y hY => aa ?_ | refine ac tk0 bq (ab fun Y hY => aa ?_) | refine aa ?_ | refine ax ?_); (try clear hK' K'); (try dsimp only [aop]); try simp only [go_sem,seval,bq,Tryz.results32,one,len,g0,g14',q1,q2,q3,q4,k4,na,ra,nb,rb]) | (with_reducible first | refine ag ?_ | refine am ?_ | refine aq ?_ | refine aG fun K hK => ?_ | refine az ?_ | refine aA ?_ | refine bh ?_ | refine bp ?_ | refine av ?_ | refine aH ?_ | refine aB ?_) | (with_reducible refine hK _ ?_; clear hK K) | ((with_reducible refine ai ?_ ?_); (· decide)) | (with_reducible refine bm ?_ ?_; (· (try and_intros) <;> first | omega | assumption | (simp only [List.length_append,List.length_map,List.length_cons,List.length_nil] <;> omega))) | (with_reducible refine ae (ca) ?_) | (with_reducible refine ae (cb) ?_) | (with_reducible refine bv (cD _ _ ?_) ?_; (· (try simp only [List.length_append,List.length_cons,List.length_nil]); omega)))
set_option maxRecDepth 100000 in
set_option maxHeartbeats 8000000 in
theorem BM (c : PC) (e v : PE) (f : Wd) (n : Int) (a b : PA) (hc : TxC c) (ha : TxA a) (hb : TxA b) : AFn Tryz.prog 32 [.agg (paA (.mk 5 c e v f n [a,b]))] [] (bs (bb (tkA (.mk 5 c e v f n [a,b])))) [] := by
 rw [EE]
 obtain ⟨one,len,g0,s1,s4,s8,g12,g13,g14⟩ := paC 5 c e v f n [a,b]
 have e2 : ew [a,b] = paA a ++ paA b := by simp [ew]
 rw [e2] at g14
 obtain ⟨q1,q2,q3⟩ := rR (eZ a) (eZ b)
 have na := (dP a).nm3
 have ra := (dP a).rn3
 have nb := (dP b).nm3
 have rb := (dP b).rn3
 obtain ⟨la,ca⟩ := ha
 obtain ⟨lb,cb⟩ := hb
 obtain ⟨lc,cc⟩ := hc
 have nc := (eE c).nm3
 have rc := (eE c).rn3
 have g14' : (paA (.mk 5 c e v f n [a,b])).getD 14 .u = .sl (paA a ++ paA b) 2 .none := g14
 clear g14 e2
 generalize paA (.mk 5 c e v f n [a,b]) = AC at *
 generalize paA a ++ paA b = KS at *
 generalize paA a = A at *
 generalize paA b = B at *
 generalize ci c = CC at *
 generalize bb (tkC c) = TC at *
 generalize bb (tkA a) = TA at *
 generalize bb (tkA b) = TB at *
 refine aM [] Tryz.func32 rfl Tryz.ntmps32 (Nat.le_of_ble_eq_true rfl) (Nat.le_of_ble_eq_true rfl) fun w0 G0 B0 Pr hB0 => ?_
 simp only [aW,aL,List.cons_append,List.nil_append]
 repeat' (first | (with_reducible refine hY _ ?_; clear hY Y) | ((with_reducible first | refine au rfl (ay fun K' hK' => aa ?_) | refine hK' _ (ab fun Y hY => aa ?_) | refine ab fun Y hY => aa ?_ | refine ac tk0 bq (ab fun Y hY => aa ?_) | refine aa ?_ | refine ax ?_ | refine cG rfl (cQ fun K' hK' => aa ?_) | refine hK' _ _ (ab fun Y hY => aa ?_)); (try clear hK' K'); (try dsimp only [aop]); try simp only [go_sem,seval,bq,Tryz.results32,one,len,g0,g14',q1,q2,q3,s1,na,ra,nb,rb,nc,rc]) | (with_reducible first | refine ag ?_ | refine am ?_ | refine aq ?_ | refine aG fun K hK => ?_ | refine aA ?_ | refine ba ?_ | refine av ?_ | refine aH ?_ | refine aB ?_ | refine bK ?_ | refine ef fun K hK => ?_) | (with_reducible refine hK _ ?_; clear hK K) | (with_reducible refine hK _ _ ?_ ?_; (· kernel_rfl); clear hK K) | ((with_reducible refine ai ?_ ?_); (· decide)) | (with_reducible refine bV tk0 bq ?_ ?_; (· kernel_rfl)) | (with_reducible refine bm ?_ ?_; (· (try and_intros) <;> first | omega | assumption | (simp only [List.length_append,List.length_map,List.length_cons,List.length_nil] <;> omega))) | (with_reducible refine ae (ca) ?_) | (with_reducible refine ae (cb) ?_) | (with_reducible refine ae (cc) ?_) | (with_reducible refine bv (cD _ _ ?_) ?_; (· (try simp only [List.length_append,List.length_cons,List.length_nil]); omega)))
theorem BN (k : Int) (c : PC) (e v : PE) (f : Wd) (n : Int) (ks : List PA) (hs : seA (.mk k c e v f n ks) = true) (hc : seC c = true → TxC c) (he : seE e = true → TxE e) (hv : seE v = true → TxE v) (hk : ∀ a ∈ ks,TxA a) :
  AFn Tryz.prog 32 [.agg (paA (.mk k c e v f n ks))] [] (bs (bb (tkA (.mk k c e v f n ks)))) [] := by
 rw [seA,Bool.and_eq_true] at hs
 obtain ⟨hs,_⟩ := hs
 unfold wU oo at hs
 by_cases k0 : k = 0
 ·subst k0; exact BH c e v f n ks
 rw [if_neg k0] at hs
 by_cases k1 : k = 1
 ·subst k1
  simp only [if_true,Bool.and_eq_true] at hs
  exact BI c e v f n ks (hc hs.2.1)
 rw [if_neg k1] at hs
 by_cases k2 : k = 2
 ·subst k2
  simp only [if_true,Bool.and_eq_true,decide_eq_true_eq] at hs
  have := eU hs.2.2.1.2.1
  exact BJ c e v f n ks (he hs.2.2.1.1) (by omega) (lT hs.2.2.1.2.2.1 hs.2.2.1.2.2.2)
 rw [if_neg k2] at hs
 by_cases k3 : k = 3
 ·subst k3
  simp only [if_true,Bool.and_eq_true,decide_eq_true_eq] at hs
  have := eU hs.2.2.1.2.1
  exact BK c e v f n ks (he hs.2.2.1.1) (hv hs.2.2.2) (by omega) (lT hs.2.2.1.2.2.1 hs.2.2.1.2.2.2)
 rw [if_neg k3] at hs
 by_cases k4 : k = 4
 ·subst k4
  simp only [if_true,Bool.and_eq_true,decide_eq_true_eq] at hs
  obtain ⟨a,b,rfl⟩ : ∃ a b,ks = [a,b] := by
   match ks,hs.1 with
   | [a,b],_ => exact ⟨a,b,rfl⟩
  exact BL c e v f n a b (hk a (by simp)) (hk b (by simp))
 rw [if_neg k4] at hs
 by_cases k5 : k = 5
 ·subst k5
  simp only [if_true,Bool.and_eq_true,decide_eq_true_eq] at hs
  obtain ⟨a,b,rfl⟩ : ∃ a b,ks = [a,b] := by
   match ks,hs.1 with
   | [a,b],_ => exact ⟨a,b,rfl⟩
  exact BM c e v f n a b (hc hs.2.1) (hk a (by simp)) (hk b (by simp))
 ·rw [if_neg k5] at hs; cases hs
mutual
theorem ph : ∀ e,seA e = true → nA e ≤ 1000000000 → TxA e
 | .mk k c e v f n ks,hs,hn => by
  have hl := qD (.mk k c e v f n ks) hs
  have h1 := fY (tkA (.mk k c e v f n ks))
  have hs2 := hs
  rw [seA,Bool.and_eq_true] at hs2
  have hn2 := hn
  rw [nA] at hn2
  exact ⟨by omega,BN k c e v f n ks hs (fun h => (nG c h (by omega)).1) (fun h => (nH e h (by omega)).1) (fun h => (nH v h (by omega)).1) (rN ks hs2.2 (by omega))⟩
theorem rN : ∀ l,mq l = true → nAs l ≤ 1000000000 → ∀ a ∈ l,TxA a
 | [],_,_ => fun e he => absurd he List.not_mem_nil
 | e :: r,hs,hn => fun a ha => by
  rw [mq,Bool.and_eq_true] at hs
  rw [nAs] at hn
  exact (List.mem_cons.1 ha).elim (fun q => q ▸ ph e hs.1 (by omega)) (rN r hs.2 (by omega) a)
end
end Go.Proofs.YtkjnkkmokojnpaaGreatDoor
namespace Go.Proofs.YtkjnkkmokojnpaaGreatDoor
set_option linter.unusedSimpArgs false
set_option linter.unusedVariables false
open Go.RowKit
theorem j0 (l : List (List Wd)) : (gR l).length ≤ iT l := by
 unfold gR; rw [tP]; exact jj l
theorem qJ : ∀ a b : List (List Wd),iT (a ++ b) = iT a + iT b
 | [],b => by simp [iT]
 | x :: r,b => by rw [List.cons_append,iT,iT,qJ r b]; omega
theorem xH (l : List (List Wd)) (k : Nat) : iT (l.take k) ≤ iT l := by
 have h := qJ (l.take k) (l.drop k)
 rw [List.take_append_drop] at h
 omega
theorem Ca {l : List (List Wd)} {k : Nat} (h : k < l.length) : tl l[k] ≤ iT l := by
 have h1 := qJ (l.take k) (l.drop k)
 rw [List.take_append_drop,List.drop_eq_getElem_cons h,iT] at h1
 omega
theorem uC : ∀ l : List (List Wd),l.length ≤ iT l
 | [] => Nat.le_refl _
 | x :: r => by have := uC r; rw [iT,List.length_cons]; omega
def cT : Nat → List Nat
 | 0 => [0]
 | 1 => [0]
 | 2 => [0,3]
 | 3 => [0,3,4]
 | 4 => [0,3,4]
 | 5 => [0,3,4]
 | 6 => [0,3,4]
 | 7 => [0,3,4]
 | 8 => [3]
 | _ => []
set_option maxRecDepth 100000 in
set_option maxHeartbeats 4000000 in
theorem CJ (l : List (List Wd)) (b : Bool) (hl : Lg l) (hne : ∀ x ∈ l,x ≠ []) (hb : iT l ≤ 1000000000000) : AFn Tryz.prog 31 [.sl (l.map fun x => bs (bb x)) l.length (ofB b)] [] (bs (gR l)) [] := by
 unfold Lg at hl
 refine aM [] Tryz.func31 rfl Tryz.ntmps31 (Nat.le_of_ble_eq_true rfl) (Nat.le_of_ble_eq_true rfl) fun w0 G0 B0 Pr hB0 => ?_
 simp only [aW,aL,List.cons_append,List.nil_append]
 repeat' (first | (with_reducible refine hY _ ?_; clear hY Y) | ((with_reducible first | refine au rfl (ay fun K' hK' => aa ?_) | refine hK' _ (ab fun Y hY => aa ?_) | refine ac tk0 cT (ab fun Y hY => aa ?_)); (try clear hK' K'); (try dsimp only [aop]); try simp only [go_sem,↓reduceIte,Nat.reduceEqDiff,Nat.reduceLT,Nat.reduceLeDiff,Nat.reduceAdd,Nat.reduceSub,Nat.reduceMul,Nat.reduceBEq,Nat.reduceBNe,Nat.reducePow,Int.reduceToNat,Int.reduceLE,Int.reduceLT,Int.reduceMul,Int.reduceEq,Int.reducePow,Int.reduceAdd,Int.reduceSub,Int.reduceNeg,reduceCtorEq,cT,Tryz.results31]) | (with_reducible first | refine ag ?_ | refine am ?_ | refine aq ?_ | refine aG fun K hK => ?_ | refine av ?_ | refine bR ?_) | (with_reducible refine hK _ ?_; clear hK K))
 refine bX (α := Nat) (fun k => [(0,.sl (l.map fun x => bs (bb x)) l.length (ofB b)),(3,bs (gR (l.take k))),(4,inA (k : Int))])
  (fun k => k ≤ l.length) (fun k => l.length - k) 0 [0,3,4] ?_ (Nat.zero_le _) ?_
 ·simp only [go_sem,↓reduceIte,Nat.reduceEqDiff,Nat.reduceLT,Nat.reduceLeDiff,Nat.reduceAdd,Nat.reduceSub,Nat.reduceMul,Nat.reduceBEq,Nat.reduceBNe,Nat.reducePow,Int.reduceToNat,Int.reduceLE,Int.reduceLT,Int.reduceMul,Int.reduceEq,Int.reducePow,Int.reduceAdd,Int.reduceSub,Int.reduceNeg,reduceCtorEq] <;> rfl
 intro k hk ih
 by_cases hlt : k < l.length
 ·have hlt' : ((k : Int) < (l.length : Int)) = True := eq_true (by omega)
  have hkw := dp (n := k) (by omega)
  have hg0 := i8 (f := fun x => bs (bb x)) hlt
  have hfl : (l.map fun x => bs (bb x)).length = l.length := List.length_map ..
  have ht := xl hlt (hne _ (List.getElem_mem hlt))
  have h1 := j0 (l.take k)
  have h2 := xH l k
  have h3 := fY l[k]
  have h4 := Ca hlt
  have ihk := ih (k + 1) (by omega) (by omega)
  rw [ht] at ihk
  clear ih ht hne
  generalize bb l[k] = t at *
  generalize gR (l.take k) = R at *
  by_cases hk0 : k = 0
  ·subst hk0
   rw [if_pos rfl] at ihk
   have hR : R = [] := by
    cases R with
    | nil => rfl
    | cons a r => simp [iT] at h1
   subst hR
   repeat' (first | (with_reducible refine hY _ ?_; clear hY Y) | ((with_reducible first | refine au rfl (ay fun K' hK' => aa ?_) | refine hK' _ (ab fun Y hY => aa ?_) | refine ab fun Y hY => aa ?_ | refine ac tk0 cT (ab fun Y hY => aa ?_) | refine aa ?_); (try clear hK' K'); (try dsimp only [aop]); try simp only [go_sem,↓reduceIte,Nat.reduceEqDiff,Nat.reduceLT,Nat.reduceLeDiff,Nat.reduceAdd,Nat.reduceSub,Nat.reduceMul,Nat.reduceBEq,Nat.reduceBNe,Nat.reducePow,Int.reduceToNat,Int.reduceLE,Int.reduceLT,Int.reduceMul,Int.reduceEq,Int.reducePow,Int.reduceAdd,Int.reduceSub,Int.reduceNeg,reduceCtorEq,cT,Tryz.results31,hlt',hfl,hg0,hkw]) | (with_reducible first | refine ag ?_ | refine am ?_ | refine aq ?_ | refine aG fun K hK => ?_ | refine az ?_ | refine ba ?_ | refine av ?_ | refine aH ?_) | (with_reducible refine hK _ ?_; clear hK K) | ((with_reducible refine ai ?_ ?_); (· decide)) | ((with_reducible refine fi (fun hc => ?_) (fun hc => ?_)) <;> (try simp only [decide_eq_true_eq,decide_eq_false_iff_not,Bool.not_true,Bool.not_false,Bool.not_eq_true',Bool.not_eq_false'] at hc) <;> (try (exfalso; omega))) | (with_reducible refine bm ?_ ?_; (· (try and_intros) <;> first | omega | assumption | (simp only [List.length_append,List.length_map,List.length_cons,List.length_nil] <;> omega))) | (with_reducible refine bv (cD _ _ ?_) ?_; (· (try simp only [List.length_append,List.length_cons,List.length_nil]); omega)))
   refine bg [0,3,4] (by simp only [go_sem,↓reduceIte,Nat.reduceEqDiff,Nat.reduceLT,Nat.reduceLeDiff,Nat.reduceAdd,Nat.reduceSub,Nat.reduceMul,Nat.reduceBEq,Nat.reduceBNe,Nat.reducePow,Int.reduceToNat,Int.reduceLE,Int.reduceLT,Int.reduceMul,Int.reduceEq,Int.reducePow,Int.reduceAdd,Int.reduceSub,Int.reduceNeg,reduceCtorEq]; exact rfl) ?_
   exact db ihk (by simp)
  ·rw [if_neg hk0] at ihk
   have hk0' : ((0 : Int) < (k : Int)) = True := eq_true (by omega)
   repeat' (first | (with_reducible refine hY _ ?_; clear hY Y) | ((with_reducible first | refine au rfl (ay fun K' hK' => aa ?_) | refine hK' _ (ab fun Y hY => aa ?_) | refine ab fun Y hY => aa ?_ | refine ac tk0 cT (ab fun Y hY => aa ?_) | refine aa ?_); (try clear hK' K'); (try dsimp only [aop]); try simp only [go_sem,↓reduceIte,Nat.reduceEqDiff,Nat.reduceLT,Nat.reduceLeDiff,Nat.reduceAdd,Nat.reduceSub,Nat.reduceMul,Nat.reduceBEq,Nat.reduceBNe,Nat.reducePow,Int.reduceToNat,Int.reduceLE,Int.reduceLT,Int.reduceMul,Int.reduceEq,Int.reducePow,Int.reduceAdd,Int.reduceSub,Int.reduceNeg,reduceCtorEq,cT,Tryz.results31,hlt',hfl,hg0,hkw,hk0']) | (with_reducible first | refine ag ?_ | refine am ?_ | refine aq ?_ | refine aG fun K hK => ?_ | refine az ?_ | refine ba ?_ | refine av ?_ | refine aH ?_) | (with_reducible refine hK _ ?_; clear hK K) | ((with_reducible refine ai ?_ ?_); (· decide)) | (with_reducible refine bm ?_ ?_; (· (try and_intros) <;> first | omega | assumption | (simp only [List.length_append,List.length_map,List.length_cons,List.length_nil] <;> omega))) | (with_reducible refine bv (cD _ _ ?_) ?_; (· (try simp only [List.length_append,List.length_cons,List.length_nil]); omega)))
   refine bg [0,3,4] (by simp only [go_sem,↓reduceIte,Nat.reduceEqDiff,Nat.reduceLT,Nat.reduceLeDiff,Nat.reduceAdd,Nat.reduceSub,Nat.reduceMul,Nat.reduceBEq,Nat.reduceBNe,Nat.reducePow,Int.reduceToNat,Int.reduceLE,Int.reduceLT,Int.reduceMul,Int.reduceEq,Int.reducePow,Int.reduceAdd,Int.reduceSub,Int.reduceNeg,reduceCtorEq]; exact rfl) ?_
   exact db ihk (by simp)
 ·have hlt' : ((k : Int) < (l.length : Int)) = False := eq_false (by omega)
  rw [List.take_of_length_le (by omega)]
  clear ih
  repeat' (first | (with_reducible refine hY _ ?_; clear hY Y) | ((with_reducible first | refine au rfl (ay fun K' hK' => aa ?_) | refine hK' _ (ab fun Y hY => aa ?_) | refine ab fun Y hY => aa ?_ | refine ac tk0 cT (ab fun Y hY => aa ?_) | refine aa ?_ | refine ax ?_); (try clear hK' K'); (try dsimp only [aop]); try simp only [go_sem,↓reduceIte,Nat.reduceEqDiff,Nat.reduceLT,Nat.reduceLeDiff,Nat.reduceAdd,Nat.reduceSub,Nat.reduceMul,Nat.reduceBEq,Nat.reduceBNe,Nat.reducePow,Int.reduceToNat,Int.reduceLE,Int.reduceLT,Int.reduceMul,Int.reduceEq,Int.reducePow,Int.reduceAdd,Int.reduceSub,Int.reduceNeg,reduceCtorEq,cT,Tryz.results31,hlt']) | (with_reducible first | refine ag ?_ | refine am ?_ | refine aq ?_ | refine aG fun K hK => ?_ | refine aA ?_ | refine bY ?_ | refine bF ?_ | refine aB ?_ | refine bE ?_) | (with_reducible refine hK _ ?_; clear hK K) | ((with_reducible refine ai ?_ ?_); (· decide)))
theorem vt (l : List Wd) (b : Bool) (hl : Lg l) (hb : iT (l.map fun x => [x]) ≤ 1000000000000) : AFn Tryz.prog 31 [.sl (l.map bs) l.length (ofB b)] [] (bs (gR (l.map fun x => [x]))) [] := by
 have h := CJ (l.map fun x => [x]) b (by unfold Lg at *; rw [List.length_map]; exact hl) (fun x hx => by obtain ⟨y,_,rfl⟩ := List.mem_map.1 hx; simp) hb
 rw [List.map_map,List.length_map] at h
 exact h
def df : Nat → List Nat
 | 0 => [0]
 | 1 => [0]
 | 2 => [0,3]
 | 3 => [0,3,4]
 | 4 => [0,3,4]
 | 5 => [0,3,4]
 | 6 => [3]
 | _ => []
set_option maxRecDepth 100000 in
set_option maxHeartbeats 4000000 in
theorem uA (l : List PE) (hl : Lg l) (hb : iT (l.map tkE) ≤ 1000000000000) (hc : ∀ a ∈ l,TxE a) : AFn Tryz.prog 169 [.sl (cl l) l.length .none] [] (bs (gR (l.map tkE))) [] := by
 have hr := CJ (l.map tkE) false (by unfold Lg at *; rw [List.length_map]; exact hl) (fun x hx => by obtain ⟨y,_,rfl⟩ := List.mem_map.1 hx; exact qH y) hb
 rw [List.map_map,List.length_map] at hr
 have hl2 := uC (l.map tkE)
 rw [List.length_map] at hl2
 unfold Lg at hl
 obtain ⟨F,hF⟩ : ∃ F : PE → AV,F = (fun x => bs (bb x)) ∘ tkE := ⟨_,rfl⟩
 rw [← hF] at hr
 generalize gR (l.map tkE) = R at *
 refine aM [] Tryz.func169 rfl Tryz.ntmps169 (Nat.le_of_ble_eq_true rfl) (Nat.le_of_ble_eq_true rfl) fun w0 G0 B0 Pr hB0 => ?_
 simp only [aW,aL,List.cons_append,List.nil_append]
 repeat' (first | (with_reducible refine hY _ ?_; clear hY Y) | ((with_reducible first | refine au rfl (ay fun K' hK' => aa ?_) | refine hK' _ (ab fun Y hY => aa ?_) | refine ac tk0 df (ab fun Y hY => aa ?_)); (try clear hK' K'); (try dsimp only [aop]); try simp only [go_sem,↓reduceIte,Nat.reduceEqDiff,Nat.reduceLT,Nat.reduceLeDiff,Nat.reduceAdd,Nat.reduceSub,Nat.reduceMul,Nat.reduceBEq,Nat.reduceBNe,Nat.reducePow,Int.reduceToNat,Int.reduceLE,Int.reduceLT,Int.reduceMul,Int.reduceEq,Int.reducePow,Int.reduceAdd,Int.reduceSub,Int.reduceNeg,reduceCtorEq,df,Tryz.results169]) | (with_reducible first | refine ag ?_ | refine am ?_ | refine aq ?_ | refine aG fun K hK => ?_ | refine av ?_ | refine bR ?_) | (with_reducible refine hK _ ?_; clear hK K))
 refine nT (mF (b := 10018) (t := 3) 9 (by decide) (by decide) rfl rfl) ?_
 refine bX (α := Nat) (fun k => [(0,.sl (cl l) l.length .none),(3,.sl ((l.take k).map F) k (.tok 10018)),(4,inA (k : Int)),(10018,.bt k 9)])
  (fun k => k ≤ l.length) (fun k => l.length - k) 0 [0,3,4] ?_ (Nat.zero_le _) ?_
 ·simp only [go_sem,↓reduceIte,Nat.reduceEqDiff,Nat.reduceLT,Nat.reduceLeDiff,Nat.reduceAdd,Nat.reduceSub,Nat.reduceMul,Nat.reduceBEq,Nat.reduceBNe,Nat.reducePow,Int.reduceToNat,Int.reduceLE,Int.reduceLT,Int.reduceMul,Int.reduceEq,Int.reducePow,Int.reduceAdd,Int.reduceSub,Int.reduceNeg,reduceCtorEq] <;> rfl
 intro k hk ih
 by_cases hlt : k < l.length
 ·have hlt' : ((k : Int) < (l.length : Int)) = True := eq_true (by omega)
  have hkw := dp (n := k) (by omega)
  have hg0 := lj hlt
  have hfl := iH l
  have hst : (l.take (k + 1)).map F = (l.take k).map F ++ [F l[k]] := by rw [List.take_succ_eq_append_getElem hlt,List.map_append]; rfl
  have hlen : ((l.take k).map F).length = k := by simp; omega
  obtain ⟨_,c1⟩ := hc l[k] (List.getElem_mem hlt)
  have ihk := ih (k + 1) (by omega) (by omega)
  rw [hst] at ihk
  have hFk : F l[k] = bs (bb (tkE l[k])) := by rw [hF]; rfl
  rw [hFk] at ihk
  have nE' := (dF l[k]).nm3
  have rE' := (dF l[k]).rn3
  clear ih hst hc hr hF hFk
  generalize l[k] = t at *
  generalize peA t = TC at *
  generalize bb (tkE t) = TT at *
  generalize (l.take k).map F = M at *
  repeat' (first | (with_reducible refine hY _ ?_; clear hY Y) | ((with_reducible first | refine au rfl (ay fun K' hK' => aa ?_) | refine hK' _ (ab fun Y hY => aa ?_) | refine ab fun Y hY => aa ?_ | refine ac tk0 df (ab fun Y hY => aa ?_) | refine aa ?_); (try clear hK' K'); (try dsimp only [aop]); try simp only [go_sem,↓reduceIte,Nat.reduceEqDiff,Nat.reduceLT,Nat.reduceLeDiff,Nat.reduceAdd,Nat.reduceSub,Nat.reduceMul,Nat.reduceBEq,Nat.reduceBNe,Nat.reducePow,Int.reduceToNat,Int.reduceLE,Int.reduceLT,Int.reduceMul,Int.reduceEq,Int.reducePow,Int.reduceAdd,Int.reduceSub,Int.reduceNeg,reduceCtorEq,df,Tryz.results169,hlt',hfl,hg0,hkw,nE',rE',hlen]) | (with_reducible first | refine ag ?_ | refine am ?_ | refine aq ?_ | refine aG fun K hK => ?_ | refine az ?_ | refine ba ?_ | refine av ?_ | refine aH ?_) | (with_reducible refine hK _ ?_; clear hK K) | ((with_reducible refine ai ?_ ?_); (· decide)) | (with_reducible refine bm ?_ ?_; (· (try and_intros) <;> first | omega | assumption | (simp only [List.length_append,List.length_map,List.length_cons,List.length_nil] <;> omega))) | (with_reducible refine ae (c1) ?_))
  refine bg [0,3,4] (by simp only [go_sem,↓reduceIte,Nat.reduceEqDiff,Nat.reduceLT,Nat.reduceLeDiff,Nat.reduceAdd,Nat.reduceSub,Nat.reduceMul,Nat.reduceBEq,Nat.reduceBNe,Nat.reducePow,Int.reduceToNat,Int.reduceLE,Int.reduceLT,Int.reduceMul,Int.reduceEq,Int.reducePow,Int.reduceAdd,Int.reduceSub,Int.reduceNeg,reduceCtorEq]; exact rfl) ?_
  exact db ihk (by simp)
 ·have hlt' : ((k : Int) < (l.length : Int)) = False := eq_false (by omega)
  obtain rfl : k = l.length := by omega
  rw [List.take_length]
  simp only [ofB] at hr
  clear ih
  generalize l.map F = M at *
  have hr2 : AFn Tryz.prog 31 [.sl M l.length (.tok 20000)] [.bt l.length 9] (bs R) [.bt l.length 9] := lw hr rfl
  clear hr
  repeat' (first | (with_reducible refine hY _ ?_; clear hY Y) | ((with_reducible first | refine au rfl (ay fun K' hK' => aa ?_) | refine hK' _ (ab fun Y hY => aa ?_) | refine ab fun Y hY => aa ?_ | refine ac tk0 df (ab fun Y hY => aa ?_) | refine aa ?_ | refine ax ?_); (try clear hK' K'); (try dsimp only [aop]); try simp only [go_sem,↓reduceIte,Nat.reduceEqDiff,Nat.reduceLT,Nat.reduceLeDiff,Nat.reduceAdd,Nat.reduceSub,Nat.reduceMul,Nat.reduceBEq,Nat.reduceBNe,Nat.reducePow,Int.reduceToNat,Int.reduceLE,Int.reduceLT,Int.reduceMul,Int.reduceEq,Int.reducePow,Int.reduceAdd,Int.reduceSub,Int.reduceNeg,reduceCtorEq,df,Tryz.results169,hlt']) | (with_reducible first | refine ag ?_ | refine am ?_ | refine aq ?_ | refine aG fun K hK => ?_ | refine aA ?_ | refine bY ?_ | refine bF ?_ | refine aB ?_ | refine bE ?_) | (with_reducible refine hK _ ?_; clear hK K) | ((with_reducible refine ai ?_ ?_); (· decide)) | (with_reducible refine ae (hr2) ?_))
structure TxS (a : PS') : Prop where
 len : (bb (tkS a)).length ≤ 1000000000000
 tells : AFn Tryz.prog 90 [.agg (psA a)] [] (bs (bb (tkS a))) []
structure uK (l : List PS') : Prop where
 len : (kP l).length ≤ 1000000000000
 tells : AFn Tryz.prog 33 [.sl (du l) l.length .none] [] (bs (kP l)) []
theorem z8 (l : List PS') (k : Nat) : (fV (gq (l.take k))).length ≤ (fV (gq l)).length := by
 have app : ∀ a b : List PS',gq (a ++ b) = gq a ++ gq b := fun a b => by
  induction a with
  | nil => rfl
  | cons x r ih => rw [List.cons_append,gq,gq,ih,List.append_assoc]
 have h : gq l = gq (l.take k) ++ gq (l.drop k) := by rw [← app,List.take_append_drop]
 rw [h,dm,List.length_append]; omega
def dh : Nat → List Nat
 | 0 => [0]
 | 1 => [0]
 | 2 => [0,3]
 | 3 => [0,3,4]
 | 4 => [0,3,4]
 | 5 => [0,3,4]
 | 6 => [3]
 | _ => []
set_option maxRecDepth 100000 in
set_option maxHeartbeats 4000000 in
theorem pH (l : List PS') (hl : Lg l) (hb : (kP l).length ≤ 1000000000000) (hc : ∀ a ∈ l,TxS a) : uK l := by
 refine ⟨hb,?_⟩
 unfold Lg at hl
 have hb2 : (fV (gq l)).length ≤ 1000000000000 := by unfold kP at hb; simp only [List.length_append] at hb; omega
 unfold kP
 clear hb
 refine aM [] Tryz.func33 rfl Tryz.ntmps33 (Nat.le_of_ble_eq_true rfl) (Nat.le_of_ble_eq_true rfl) fun w0 G0 B0 Pr hB0 => ?_
 simp only [aW,aL,List.cons_append,List.nil_append]
 repeat' (first | (with_reducible refine hY _ ?_; clear hY Y) | ((with_reducible first | refine au rfl (ay fun K' hK' => aa ?_) | refine hK' _ (ab fun Y hY => aa ?_) | refine ac tk0 dh (ab fun Y hY => aa ?_)); (try clear hK' K'); (try dsimp only [aop]); try simp only [go_sem,↓reduceIte,Nat.reduceEqDiff,Nat.reduceLT,Nat.reduceLeDiff,Nat.reduceAdd,Nat.reduceSub,Nat.reduceMul,Nat.reduceBEq,Nat.reduceBNe,Nat.reducePow,Int.reduceToNat,Int.reduceLE,Int.reduceLT,Int.reduceMul,Int.reduceEq,Int.reducePow,Int.reduceAdd,Int.reduceSub,Int.reduceNeg,reduceCtorEq,dh,Tryz.results33]) | (with_reducible first | refine ag ?_ | refine am ?_ | refine aq ?_ | refine aG fun K hK => ?_ | refine av ?_ | refine bR ?_) | (with_reducible refine hK _ ?_; clear hK K))
 refine bX (α := Nat) (fun k => [(0,.sl (du l) l.length .none),(3,bs ([123,32] ++ fV (gq (l.take k)))),(4,inA (k : Int))])
  (fun k => k ≤ l.length) (fun k => l.length - k) 0 [0,3,4] ?_ (Nat.zero_le _) ?_
 ·simp only [go_sem,↓reduceIte,Nat.reduceEqDiff,Nat.reduceLT,Nat.reduceLeDiff,Nat.reduceAdd,Nat.reduceSub,Nat.reduceMul,Nat.reduceBEq,Nat.reduceBNe,Nat.reducePow,Int.reduceToNat,Int.reduceLE,Int.reduceLT,Int.reduceMul,Int.reduceEq,Int.reducePow,Int.reduceAdd,Int.reduceSub,Int.reduceNeg,reduceCtorEq] <;> rfl
 intro k hk ih
 by_cases hlt : k < l.length
 ·have hlt' : ((k : Int) < (l.length : Int)) = True := eq_true (by omega)
  have hkw := dp (n := k) (by omega)
  have hg0 := jp hlt
  have hfl := gx l
  have hst := zZ hlt
  have hle := z8 l k
  obtain ⟨lt,c1⟩ := hc l[k] (List.getElem_mem hlt)
  have ihk := ih (k + 1) (by omega) (by omega)
  rw [hst] at ihk
  have nS' := (wz l[k]).nm3
  have rS' := (wz l[k]).rn3
  clear ih hst hc
  generalize l[k] = t at *
  generalize psA t = TC at *
  generalize bb (tkS t) = TT at *
  generalize fV (gq (l.take k)) = M at *
  repeat' (first | (with_reducible refine hY _ ?_; clear hY Y) | ((with_reducible first | refine au rfl (ay fun K' hK' => aa ?_) | refine hK' _ (ab fun Y hY => aa ?_) | refine ab fun Y hY => aa ?_ | refine ac tk0 dh (ab fun Y hY => aa ?_) | refine aa ?_); (try clear hK' K'); (try dsimp only [aop]); try simp only [go_sem,↓reduceIte,Nat.reduceEqDiff,Nat.reduceLT,Nat.reduceLeDiff,Nat.reduceAdd,Nat.reduceSub,Nat.reduceMul,Nat.reduceBEq,Nat.reduceBNe,Nat.reducePow,Int.reduceToNat,Int.reduceLE,Int.reduceLT,Int.reduceMul,Int.reduceEq,Int.reducePow,Int.reduceAdd,Int.reduceSub,Int.reduceNeg,reduceCtorEq,dh,Tryz.results33,hlt',hfl,hg0,hkw,nS',rS']) | (with_reducible first | refine ag ?_ | refine am ?_ | refine aq ?_ | refine aG fun K hK => ?_ | refine az ?_ | refine ba ?_ | refine av ?_ | refine aH ?_) | (with_reducible refine hK _ ?_; clear hK K) | ((with_reducible refine ai ?_ ?_); (· decide)) | (with_reducible refine bm ?_ ?_; (· (try and_intros) <;> first | omega | assumption | (simp only [List.length_append,List.length_map,List.length_cons,List.length_nil] <;> omega))) | (with_reducible refine ae (c1) ?_) | (with_reducible refine bv (cD _ _ ?_) ?_; (· (try simp only [List.length_append,List.length_cons,List.length_nil]); omega)))
  refine bg [0,3,4] (by simp only [go_sem,↓reduceIte,Nat.reduceEqDiff,Nat.reduceLT,Nat.reduceLeDiff,Nat.reduceAdd,Nat.reduceSub,Nat.reduceMul,Nat.reduceBEq,Nat.reduceBNe,Nat.reducePow,Int.reduceToNat,Int.reduceLE,Int.reduceLT,Int.reduceMul,Int.reduceEq,Int.reducePow,Int.reduceAdd,Int.reduceSub,Int.reduceNeg,reduceCtorEq]; exact rfl) ?_
  exact db ihk (by simp)
 ·have hlt' : ((k : Int) < (l.length : Int)) = False := eq_false (by omega)
  rw [List.take_of_length_le (by omega)]
  clear ih hc
  generalize fV (gq l) = M at *
  repeat' (first | (with_reducible refine hY _ ?_; clear hY Y) | ((with_reducible first | refine au rfl (ay fun K' hK' => aa ?_) | refine hK' _ (ab fun Y hY => aa ?_) | refine ab fun Y hY => aa ?_ | refine ac tk0 dh (ab fun Y hY => aa ?_) | refine aa ?_ | refine ax ?_); (try clear hK' K'); (try dsimp only [aop]); try simp only [go_sem,↓reduceIte,Nat.reduceEqDiff,Nat.reduceLT,Nat.reduceLeDiff,Nat.reduceAdd,Nat.reduceSub,Nat.reduceMul,Nat.reduceBEq,Nat.reduceBNe,Nat.reducePow,Int.reduceToNat,Int.reduceLE,Int.reduceLT,Int.reduceMul,Int.reduceEq,Int.reducePow,Int.reduceAdd,Int.reduceSub,Int.reduceNeg,reduceCtorEq,dh,Tryz.results33,hlt']) | (with_reducible first | refine ag ?_ | refine am ?_ | refine aq ?_ | refine aG fun K hK => ?_ | refine aA ?_ | refine bY ?_ | refine bF ?_ | refine aB ?_ | refine bE ?_) | (with_reducible refine hK _ ?_; clear hK K) | ((with_reducible refine ai ?_ ?_); (· decide)) | (with_reducible refine bv (cD _ _ ?_) ?_; (· (try simp only [List.length_append,List.length_cons,List.length_nil]); omega)))
end Go.Proofs.YtkjnkkmokojnpaaGreatDoor
