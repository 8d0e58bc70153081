/- CertRight in K. -/
import Derived.Test.YtmpdocplcgbpkaaGreatDoorZ32
import Derived.Test.YtmpdocplcgbpkaaGreatDoorZ34
namespace Go.Proofs.YtmpdocplcgbpkaaGreatDoor
set_option linter.unusedSimpArgs false
set_option linter.unusedVariables false
open Go.RowKit
theorem xV (z : Int) : eA 0 z = .c .nilIface:=by
 unfold eA
 rw [if_pos (.inr rfl)];rfl
theorem vX {e : Nat} (z : Int) (h : e ≠ 0) : ∃ T X,eA e z = .ifc T X∧(∀ g,ren g 3 X = X)∧∀ b,cy b 4 X = false:=by
 unfold eA
 split
 ·rw [cK h]
  exact ⟨_,_,rfl,fun g=>rfl,fun b=>rfl⟩
 ·exact ⟨_,_,rfl,fun g=>rfl,fun b=>rfl⟩
def bF : Nat→List Nat
 | 0=>[0,1,2]
 | 1=>[2,3,4]
 | 2=>[2,3,4,7]
 | 3=>[2,3,4,7,8]
 | 4=>[7]
 | 5=>[2,3,4,7]
 | 6=>[2,3,7,9]
 | 7=>[7,9,10,11]
 | _=>[]
set_option maxRecDepth 100000 in
set_option maxHeartbeats 16000000 in
theorem qc (f : Fo) (c : Crt) (vs : List Int) (hok : OkF f) (hc : OkC c) : AFn Tryz.prog 5 [.agg (foA f),.agg (xU c),.sl (vs.map inA) vs.length .none] [] (.c (.bool true)) []:=by
 have hsm:=uZ f c hok hc
 cases hs : smC f c
 ·rw [hs] at hsm
  obtain ⟨k,⟨l,t⟩,ks⟩:=f
  rw [cH] at hsm ⊢
  refine aD [] Tryz.func5 rfl Tryz.ntmps5 (Nat.le_of_ble_eq_true rfl) (Nat.le_of_ble_eq_true rfl) fun w0 G0 B0 Pr hB0=>?_
  simp only [aO,aA,List.cons_append,List.nil_append]
  repeat' (first | (with_reducible refine hY _ ?_;clear hY Y) | ((with_reducible first | refine an rfl (ar fun K' hK'=>aa ?_) | refine hK' _ (ab fun Y hY=>aa ?_) | refine ab fun Y hY=>aa ?_ | refine ae tk0 bF (ab fun Y hY=>aa ?_) | refine aa ?_ | refine ao ?_);(try clear hK' K');(try dsimp only [aop]);try simp only [go_sem,↓reduceIte,Nat.reduceEqDiff,Nat.reduceLT,Nat.reduceLeDiff,Nat.reduceAdd,Nat.reduceSub,Nat.reduceMul,Nat.reduceBEq,Nat.reduceBNe,Nat.reducePow,Int.reduceToNat,Int.reduceLE,Int.reduceLT,Int.reduceMul,Int.reduceEq,Int.reducePow,Int.reduceAdd,Int.reduceSub,Int.reduceNeg,reduceCtorEq,bF,Tryz.results5]) | (with_reducible first | refine af ?_ | refine ai ?_ | refine aj ?_ | refine ay fun K hK=>?_ | refine ap ?_ | refine aS ?_ | refine au ?_) | (with_reducible refine hK _ ?_;clear hK K) | ((with_reducible refine ag ?_ ?_);(· decide)) | (with_reducible refine ah (ni) ?_) | (with_reducible refine ah (hsm) ?_))
 rw [hs] at hsm
 obtain ⟨⟨hb1,hb2,hb3,hb4⟩,hz⟩:=A8 hs
 have hce:=rS f c hok (fun l hl=>⟨by have:=(hb3 l hl).1;omega,hc.steps l hl⟩) (by omega) (by omega) hc.refs
 have hva:=v8 f vs hok
 have hri:=rT (f:=f) (c:=c) (vs:=vs)
 clear hs hb1 hb2 hb3 hb4 hz
 generalize kp f c = q at *
 generalize jw f vs = v at *
 obtain ⟨e,z⟩:=q
 obtain ⟨vb,ve⟩:=v
 simp only at hce hva hri
 obtain ⟨k,⟨l,t⟩,ks⟩:=f
 rw [cH] at hsm hce hva ⊢
 simp only [frm] at hsm hce hva ⊢
 generalize cD ks = KS at *
 generalize ks.length = kn at *
 by_cases he : e = 0
 ·subst he
  rw [xV] at hce
  by_cases hv : ve = 0
  ·subst hv
   obtain rfl:=hri rfl rfl
   rw [cR] at hva
   refine aD [] Tryz.func5 rfl Tryz.ntmps5 (Nat.le_of_ble_eq_true rfl) (Nat.le_of_ble_eq_true rfl) fun w0 G0 B0 Pr hB0=>?_
   simp only [aO,aA,List.cons_append,List.nil_append]
   repeat' (first | (with_reducible refine hY _ ?_;clear hY Y) | ((with_reducible first | refine an rfl (ar fun K' hK'=>aa ?_) | refine hK' _ (ab fun Y hY=>aa ?_) | refine bl rfl (ab fun Y hY=>aa ?_) | refine ab fun Y hY=>aa ?_ | refine ar fun K' hK'=>aa ?_ | refine ae tk0 bF (ab fun Y hY=>aa ?_) | refine aa ?_ | refine ao ?_);(try clear hK' K');(try dsimp only [aop]);try simp only [go_sem,↓reduceIte,Nat.reduceEqDiff,Nat.reduceLT,Nat.reduceLeDiff,Nat.reduceAdd,Nat.reduceSub,Nat.reduceMul,Nat.reduceBEq,Nat.reduceBNe,Nat.reducePow,Int.reduceToNat,Int.reduceLE,Int.reduceLT,Int.reduceMul,Int.reduceEq,Int.reducePow,Int.reduceAdd,Int.reduceSub,Int.reduceNeg,reduceCtorEq,bF,Tryz.results5]) | (with_reducible first | refine af ?_ | refine aL ?_ | refine ai ?_ | refine aj ?_ | refine ay fun K hK=>?_ | refine aq ?_ | refine av ?_ | refine au ?_) | (with_reducible refine hK _ ?_;clear hK K) | ((with_reducible first | refine aG ?_ ?_ | refine ag ?_ ?_);(· decide)) | (with_reducible refine ah (ni) ?_) | (with_reducible refine ah (hsm) ?_) | (with_reducible refine ah (hce) ?_) | (with_reducible refine ah (hva) ?_) | (with_reducible refine ce (cr) ?_))
  ·rw [cK hv] at hva
   refine aD [] Tryz.func5 rfl Tryz.ntmps5 (Nat.le_of_ble_eq_true rfl) (Nat.le_of_ble_eq_true rfl) fun w0 G0 B0 Pr hB0=>?_
   simp only [aO,aA,List.cons_append,List.nil_append]
   repeat' (first | (with_reducible refine hY _ ?_;clear hY Y) | ((with_reducible first | refine an rfl (ar fun K' hK'=>aa ?_) | refine hK' _ (ab fun Y hY=>aa ?_) | refine bl rfl (ab fun Y hY=>aa ?_) | refine ab fun Y hY=>aa ?_ | refine ar fun K' hK'=>aa ?_ | refine ae tk0 bF (ab fun Y hY=>aa ?_) | refine aa ?_ | refine ao ?_);(try clear hK' K');(try dsimp only [aop]);try simp only [go_sem,↓reduceIte,Nat.reduceEqDiff,Nat.reduceLT,Nat.reduceLeDiff,Nat.reduceAdd,Nat.reduceSub,Nat.reduceMul,Nat.reduceBEq,Nat.reduceBNe,Nat.reducePow,Int.reduceToNat,Int.reduceLE,Int.reduceLT,Int.reduceMul,Int.reduceEq,Int.reducePow,Int.reduceAdd,Int.reduceSub,Int.reduceNeg,reduceCtorEq,bF,Tryz.results5]) | (with_reducible first | refine af ?_ | refine bh rfl ?_ | refine aL ?_ | refine cS ?_ ?_ | refine ai ?_ | refine aj ?_ | refine ay fun K hK=>?_ | refine aq ?_ | refine av ?_ | refine au ?_) | (with_reducible refine hK _ ?_;clear hK K) | ((with_reducible first | refine aG ?_ ?_ | refine ag ?_ ?_);(· decide)) | (with_reducible refine ah (ni) ?_) | (with_reducible refine ah (hsm) ?_) | (with_reducible refine ah (hce) ?_) | (with_reducible refine ah (hva) ?_) | (with_reducible refine ce (cr) ?_))
 ·obtain ⟨T,X,hE,hX1,hX2⟩:=vX z he
  rw [hE] at hce
  by_cases hv : ve = 0
  ·subst hv
   rw [cR] at hva
   refine aD [] Tryz.func5 rfl Tryz.ntmps5 (Nat.le_of_ble_eq_true rfl) (Nat.le_of_ble_eq_true rfl) fun w0 G0 B0 Pr hB0=>?_
   simp only [aO,aA,List.cons_append,List.nil_append]
   repeat' (first | (with_reducible refine hY _ ?_;clear hY Y) | ((with_reducible first | refine an rfl (ar fun K' hK'=>aa ?_) | refine hK' _ (ab fun Y hY=>aa ?_) | refine bl rfl (ab fun Y hY=>aa ?_) | refine ab fun Y hY=>aa ?_ | refine ar fun K' hK'=>aa ?_ | refine ae tk0 bF (ab fun Y hY=>aa ?_) | refine aa ?_ | refine ao ?_);(try clear hK' K');(try dsimp only [aop]);try simp only [go_sem,↓reduceIte,Nat.reduceEqDiff,Nat.reduceLT,Nat.reduceLeDiff,Nat.reduceAdd,Nat.reduceSub,Nat.reduceMul,Nat.reduceBEq,Nat.reduceBNe,Nat.reducePow,Int.reduceToNat,Int.reduceLE,Int.reduceLT,Int.reduceMul,Int.reduceEq,Int.reducePow,Int.reduceAdd,Int.reduceSub,Int.reduceNeg,reduceCtorEq,bF,Tryz.results5,hX1,hX2]) | (with_reducible first | refine af ?_ | refine bh rfl ?_ | refine aL ?_ | refine cS ?_ ?_ | refine ai ?_ | refine aj ?_ | refine ay fun K hK=>?_ | refine aq ?_ | refine av ?_ | refine au ?_) | (with_reducible refine hK _ ?_;clear hK K) | ((with_reducible first | refine aG ?_ ?_ | refine ag ?_ ?_);(· decide)) | (with_reducible refine ah (ni) ?_) | (with_reducible refine ah (hsm) ?_) | (with_reducible refine ah (hce) ?_) | (with_reducible refine ah (hva) ?_))
  ·rw [cK hv] at hva
   refine aD [] Tryz.func5 rfl Tryz.ntmps5 (Nat.le_of_ble_eq_true rfl) (Nat.le_of_ble_eq_true rfl) fun w0 G0 B0 Pr hB0=>?_
   simp only [aO,aA,List.cons_append,List.nil_append]
   repeat' (first | (with_reducible refine hY _ ?_;clear hY Y) | ((with_reducible first | refine an rfl (ar fun K' hK'=>aa ?_) | refine hK' _ (ab fun Y hY=>aa ?_) | refine bl rfl (ab fun Y hY=>aa ?_) | refine ab fun Y hY=>aa ?_ | refine ar fun K' hK'=>aa ?_ | refine ae tk0 bF (ab fun Y hY=>aa ?_) | refine aa ?_ | refine ao ?_);(try clear hK' K');(try dsimp only [aop]);try simp only [go_sem,↓reduceIte,Nat.reduceEqDiff,Nat.reduceLT,Nat.reduceLeDiff,Nat.reduceAdd,Nat.reduceSub,Nat.reduceMul,Nat.reduceBEq,Nat.reduceBNe,Nat.reducePow,Int.reduceToNat,Int.reduceLE,Int.reduceLT,Int.reduceMul,Int.reduceEq,Int.reducePow,Int.reduceAdd,Int.reduceSub,Int.reduceNeg,reduceCtorEq,bF,Tryz.results5,hX1,hX2]) | (with_reducible first | refine af ?_ | refine bh rfl ?_ | refine aL ?_ | refine cS ?_ ?_ | refine ai ?_ | refine aj ?_ | refine ay fun K hK=>?_ | refine aq ?_ | refine av ?_ | refine au ?_) | (with_reducible refine hK _ ?_;clear hK K) | ((with_reducible first | refine aG ?_ ?_ | refine ag ?_ ?_);(· decide)) | (with_reducible refine ah (ni) ?_) | (with_reducible refine ah (hsm) ?_) | (with_reducible refine ah (hce) ?_) | (with_reducible refine ah (hva) ?_))
end Go.Proofs.YtmpdocplcgbpkaaGreatDoor
