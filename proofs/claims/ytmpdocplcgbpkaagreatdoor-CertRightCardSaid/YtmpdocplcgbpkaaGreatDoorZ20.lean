/- Normalizing in K: formulas. lin.Gcd in K; norm.Literal, leaf, norm of whatever form. -/
import Derived.Test.YtmpdocplcgbpkaaGreatDoorZ19
import Derived.Test.YtmpdocplcgbpkaaGreatDoorZ7
namespace Go.Proofs.YtmpdocplcgbpkaaGreatDoor
set_option linter.unusedSimpArgs false
set_option linter.unusedVariables false
open Go.RowKit
mutual
def kOk : Fo→Prop
 | .mk k _ ks=>((0≤k∧k≤6)∧ks.length≤1000000)∧(k = 4→ks ≠ [])∧wx ks
def wx : List Fo→Prop
 | []=>True
 | f :: r=>kOk f∧wx r
end
theorem qs : ∀ {l : List Fo},wx l→∀ f ∈ l,kOk f
 | [],_=>fun f h=>absurd h List.not_mem_nil
 | a :: l,h=>fun f hf=>by
  rcases List.mem_cons.1 hf with rfl | hf
  ·exact h.1
  ·exact qs h.2 f hf
theorem sD (no : Bool) {ks : List Fo} {k : Nat} (h : k < ks.length) (out : List Fo) : dx (ks.drop k) no out = if (dG ks[k] no).1 = 0 then dx (ks.drop (k + 1)) no (out ++ [(dG ks[k] no).2]) else ((dG ks[k] no).1,[]):=by
 rw [List.drop_eq_getElem_cons h,dx]
theorem tw (k : Int) (l : Ln) (no : Bool) : (gR k l no).1 = 0∨gR k l no = (5,fT)∨gR k l no = (3,fT):=by
 unfold gR
 rcases iQ l with e | e | ⟨e,_,_⟩
 ·rw [e];exact .inr (.inl rfl)
 ·rw [e];exact .inr (.inr rfl)
 ·rw [if_neg (by rw [e];simp)]
  split
  ·exact .inl rfl
  ·rcases iQ (jT l) with e | e | ⟨e,_,_⟩
   ·rw [e];exact .inr (.inl rfl)
   ·rw [e];exact .inr (.inr rfl)
   ·rw [if_neg (by rw [e];simp)];exact .inl rfl
mutual
theorem kH : ∀ (f : Fo) (no : Bool),(dG f no).1 = 0∨dG f no = (5,fT)∨dG f no = (3,fT)
 | .mk k l ks,no=>by
  unfold dG
  split
  ·exact tw k l no
  ·split
   ·exact yU ks (!no)
   ·split
    ·rcases pB ks no [] with e | e | e
     ·rw [if_pos e];exact .inl rfl
     ·rw [if_neg (by rw [e];decide),e];exact .inr (.inl rfl)
     ·rw [if_neg (by rw [e];decide),e];exact .inr (.inr rfl)
    ·split
     ·exact .inl rfl
     ·exact .inl rfl
theorem yU : ∀ (ks : List Fo) (no : Bool),(i5 ks no).1 = 0∨i5 ks no = (5,fT)∨i5 ks no = (3,fT)
 | [],_=>.inl rfl
 | f :: _,no=>by rw [i5];exact kH f no
theorem pB : ∀ (ks : List Fo) (no : Bool) (out : List Fo),(dx ks no out).1 = 0∨(dx ks no out).1 = 5∨(dx ks no out).1 = 3
 | [],_,_=>.inl rfl
 | f :: r,no,out=>by
  unfold dx
  rcases kH f no with e | e | e
  ·rw [if_pos e];exact pB r no _
  ·rw [if_neg (by rw [e];decide),e];exact .inr (.inl rfl)
  ·rw [if_neg (by rw [e];decide),e];exact .inr (.inr rfl)
end
theorem n3 (no : Bool) : ∀ (ks out : List Fo),(dx ks no out).1 = 0→(dx ks no out).2.length = out.length + ks.length
 | [],out,_=>rfl
 | f :: r,out,h=>by
  unfold dx at h ⊢
  split at h
  ·rename_i e
   rw [if_pos e,n3 no r _ h]
   simp;omega
  ·rename_i e
   exact absurd h e
theorem we (a : List Fo) (f : Fo) : cD (a ++ [f]) = cD a ++ foA f:=by rw [jD,jD,List.flatMap_append];simp
theorem w6n : IntKind.i64.wrap 6 = 6:=rfl
theorem w5n : IntKind.i64.wrap 5 = 5:=rfl
abbrev z4 : List AV:=[inA 0,inA 0,.sl [] 0 .full,.sl [] 0 .full]
def aF : Nat→List Nat
 | 0=>[0,1]
 | 1=>[1,2,4]
 | 2=>[1,2,4,12]
 | 3=>[1,2,4,12]
 | 4=>[1,2,4]
 | 5=>[1,2,4,12]
 | 6=>[1,2,4]
 | 7=>[1,2,4,12]
 | 8=>[1,2,4,12]
 | 9=>[1,2,4]
 | 10=>[1,2,4,6]
 | 11=>[1,2,4,6]
 | 12=>[1,2,4,6]
 | 13=>[1,4,6,44,45,46]
 | 14=>[1,4,6,44,45,46]
 | 15=>[1,4,6,8,44,45,46]
 | 16=>[1,4,6,9,10,44,45,46]
 | 17=>[4,10]
 | 18=>[1,4,6,9,44,45,46]
 | 19=>[1,4,6,44,45,46]
 | 20=>[4,6]
 | 21=>[1,2,4]
 | 22=>[2,4]
 | 23=>[2,4]
 | _=>[]
set_option maxRecDepth 100000 in
set_option maxHeartbeats 16000000 in
theorem yT (HG : ∀ l,cY l = true→AFn Tryz.prog 118 [.agg (lnA l)] [] (inA (eB 0 l.t : Int)) []) :
  ∀ f,OkF f→kOk f→∀ no,AFn Tryz.prog 33 [.agg (foA f),.c (.bool no)] [] (gL (dG f no)) []:=by
 refine iH fun k l ks hlt0 hlk hoks IH=>?_
 rintro ⟨⟨hkr,hkn⟩,hk4,hkk⟩ no
 have hIH : ∀ f ∈ ks,∀ no,AFn Tryz.prog 33 [.agg (foA f),.c (.bool no)] [] (gL (dG f no)) []:=fun f hf=>IH f hf (qs hkk f hf)
 clear IH
 unfold Lg at hlk
 have hleaf:=yG HG k l ks no
 rw [show dG (.mk k l ks) no = (if k = 2∨k = 3 then gR k l no
  else if k = 4 then i5 ks (!no)
  else if k = 5∨k = 6 then (if (dx ks no []).1 = 0 then (0,.mk (if no then 11 - k else k) ⟨0,[]⟩ (dx ks no []).2) else ((dx ks no []).1,fT))
  else if no then (0,lh (.mk k l ks)) else (0,.mk k l ks)) from rfl]
 by_cases h23 : k = 2∨k = 3
 ·rw [if_pos h23]
  have hl:=hleaf h23
  clear hleaf HG hIH
  obtain ⟨c,t⟩:=l
  rcases tw k ⟨c,t⟩ no with e | e | e
  ·generalize gR k ⟨c,t⟩ no = q at *
   obtain ⟨x,⟨fk,⟨fc,ft⟩,fks⟩⟩:=q
   simp only at e
   subst e
   rw [hC] at hl ⊢
   rw [cH] at hl ⊢
   rcases h23 with rfl | rfl
   ·refine aD [] Tryz.func33 rfl Tryz.ntmps33 (Nat.le_of_ble_eq_true rfl) (Nat.le_of_ble_eq_true rfl) fun w0 G0 B0 Pr hB0=>?_
    simp only [aO,aA,List.cons_append,List.nil_append]
    repeat' (first | (with_reducible refine hY _ ?_;clear hY Y) | ((with_reducible first | refine an rfl (ar fun K' hK'=>aa ?_) | refine hK' _ (ab fun Y hY=>aa ?_) | refine ab fun Y hY=>aa ?_ | refine ae tk0 aF (ab fun Y hY=>aa ?_) | refine aa ?_ | refine ao ?_);(try clear hK' K');(try dsimp only [aop]);try simp only [go_sem,seval,-Int.reduceNatCast,-Int.reduceNatCast',aF,Tryz.results33]) | (with_reducible first | refine af ?_ | refine ai ?_ | refine aj ?_ | refine ay fun K hK=>?_ | refine ap ?_ | refine aS ?_ | refine bb ?_ | refine al ?_ | refine av ?_ | refine au ?_) | (with_reducible refine hK _ ?_;clear hK K) | ((with_reducible refine ag ?_ ?_);(· decide)) | (with_reducible refine ah (hl) ?_))
   ·refine aD [] Tryz.func33 rfl Tryz.ntmps33 (Nat.le_of_ble_eq_true rfl) (Nat.le_of_ble_eq_true rfl) fun w0 G0 B0 Pr hB0=>?_
    simp only [aO,aA,List.cons_append,List.nil_append]
    repeat' (first | (with_reducible refine hY _ ?_;clear hY Y) | ((with_reducible first | refine an rfl (ar fun K' hK'=>aa ?_) | refine hK' _ (ab fun Y hY=>aa ?_) | refine ab fun Y hY=>aa ?_ | refine ae tk0 aF (ab fun Y hY=>aa ?_) | refine aa ?_ | refine ao ?_);(try clear hK' K');(try dsimp only [aop]);try simp only [go_sem,seval,-Int.reduceNatCast,-Int.reduceNatCast',aF,Tryz.results33]) | (with_reducible first | refine af ?_ | refine ai ?_ | refine aj ?_ | refine ay fun K hK=>?_ | refine ap ?_ | refine aq ?_ | refine aS ?_ | refine bb ?_ | refine al ?_ | refine au ?_) | (with_reducible refine hK _ ?_;clear hK K) | ((with_reducible refine ag ?_ ?_);(· decide)) | (with_reducible refine ah (hl) ?_))
  ·rw [e,iT] at hl ⊢
   rw [cH] at hl ⊢
   rcases h23 with rfl | rfl
   ·refine aD [] Tryz.func33 rfl Tryz.ntmps33 (Nat.le_of_ble_eq_true rfl) (Nat.le_of_ble_eq_true rfl) fun w0 G0 B0 Pr hB0=>?_
    simp only [aO,aA,List.cons_append,List.nil_append]
    repeat' (first | (with_reducible refine hY _ ?_;clear hY Y) | ((with_reducible first | refine an rfl (ar fun K' hK'=>aa ?_) | refine hK' _ (ab fun Y hY=>aa ?_) | refine ab fun Y hY=>aa ?_ | refine ae tk0 aF (ab fun Y hY=>aa ?_) | refine aa ?_ | refine ao ?_);(try clear hK' K');(try dsimp only [aop]);try simp only [go_sem,seval,-Int.reduceNatCast,-Int.reduceNatCast',aF,Tryz.results33]) | (with_reducible first | refine af ?_ | refine ai ?_ | refine aj ?_ | refine ay fun K hK=>?_ | refine ap ?_ | refine aS ?_ | refine bb ?_ | refine al ?_ | refine av ?_ | refine au ?_) | (with_reducible refine hK _ ?_;clear hK K) | ((with_reducible refine ag ?_ ?_);(· decide)) | (with_reducible refine ah (hl) ?_))
   ·refine aD [] Tryz.func33 rfl Tryz.ntmps33 (Nat.le_of_ble_eq_true rfl) (Nat.le_of_ble_eq_true rfl) fun w0 G0 B0 Pr hB0=>?_
    simp only [aO,aA,List.cons_append,List.nil_append]
    repeat' (first | (with_reducible refine hY _ ?_;clear hY Y) | ((with_reducible first | refine an rfl (ar fun K' hK'=>aa ?_) | refine hK' _ (ab fun Y hY=>aa ?_) | refine ab fun Y hY=>aa ?_ | refine ae tk0 aF (ab fun Y hY=>aa ?_) | refine aa ?_ | refine ao ?_);(try clear hK' K');(try dsimp only [aop]);try simp only [go_sem,seval,-Int.reduceNatCast,-Int.reduceNatCast',aF,Tryz.results33]) | (with_reducible first | refine af ?_ | refine ai ?_ | refine aj ?_ | refine ay fun K hK=>?_ | refine ap ?_ | refine aq ?_ | refine aS ?_ | refine bb ?_ | refine al ?_ | refine au ?_) | (with_reducible refine hK _ ?_;clear hK K) | ((with_reducible refine ag ?_ ?_);(· decide)) | (with_reducible refine ah (hl) ?_))
  ·rw [e,ju] at hl ⊢
   rw [cH] at hl ⊢
   rcases h23 with rfl | rfl
   ·refine aD [] Tryz.func33 rfl Tryz.ntmps33 (Nat.le_of_ble_eq_true rfl) (Nat.le_of_ble_eq_true rfl) fun w0 G0 B0 Pr hB0=>?_
    simp only [aO,aA,List.cons_append,List.nil_append]
    repeat' (first | (with_reducible refine hY _ ?_;clear hY Y) | ((with_reducible first | refine an rfl (ar fun K' hK'=>aa ?_) | refine hK' _ (ab fun Y hY=>aa ?_) | refine ab fun Y hY=>aa ?_ | refine ae tk0 aF (ab fun Y hY=>aa ?_) | refine aa ?_ | refine ao ?_);(try clear hK' K');(try dsimp only [aop]);try simp only [go_sem,seval,-Int.reduceNatCast,-Int.reduceNatCast',aF,Tryz.results33]) | (with_reducible first | refine af ?_ | refine ai ?_ | refine aj ?_ | refine ay fun K hK=>?_ | refine ap ?_ | refine aS ?_ | refine bb ?_ | refine al ?_ | refine av ?_ | refine au ?_) | (with_reducible refine hK _ ?_;clear hK K) | ((with_reducible refine ag ?_ ?_);(· decide)) | (with_reducible refine ah (hl) ?_))
   ·refine aD [] Tryz.func33 rfl Tryz.ntmps33 (Nat.le_of_ble_eq_true rfl) (Nat.le_of_ble_eq_true rfl) fun w0 G0 B0 Pr hB0=>?_
    simp only [aO,aA,List.cons_append,List.nil_append]
    repeat' (first | (with_reducible refine hY _ ?_;clear hY Y) | ((with_reducible first | refine an rfl (ar fun K' hK'=>aa ?_) | refine hK' _ (ab fun Y hY=>aa ?_) | refine ab fun Y hY=>aa ?_ | refine ae tk0 aF (ab fun Y hY=>aa ?_) | refine aa ?_ | refine ao ?_);(try clear hK' K');(try dsimp only [aop]);try simp only [go_sem,seval,-Int.reduceNatCast,-Int.reduceNatCast',aF,Tryz.results33]) | (with_reducible first | refine af ?_ | refine ai ?_ | refine aj ?_ | refine ay fun K hK=>?_ | refine ap ?_ | refine aq ?_ | refine aS ?_ | refine bb ?_ | refine al ?_ | refine au ?_) | (with_reducible refine hK _ ?_;clear hK K) | ((with_reducible refine ag ?_ ?_);(· decide)) | (with_reducible refine ah (hl) ?_))
 rw [if_neg h23]
 have k2 : (k = 2) = False:=eq_false fun e=>h23 (.inl e)
 have k3 : (k = 3) = False:=eq_false fun e=>h23 (.inr e)
 clear hleaf HG
 obtain ⟨c,t⟩:=l
 rw [cH]
 by_cases hk : k = 4
 ·rw [if_pos hk]
  subst hk
  obtain ⟨f0,r,rfl⟩:=List.exists_cons_of_ne_nil (hk4 rfl)
  have hl:=hIH f0 (by simp) (!no)
  rw [show i5 (f0 :: r) (!no) = dG f0 (!no) from by rw [i5]]
  have hne:=kH f0 (!no)
  generalize dG f0 (!no) = q at *
  obtain ⟨k0,⟨c0,t0⟩,ks0⟩:=f0
  have hg0 : ((cD (.mk k0 ⟨c0,t0⟩ ks0 :: r)).drop 0).take 4 = [inA k0,inA c0,.sl (aJ t0) t0.length .none,.sl (cD ks0) ks0.length .none]:=by
   have:=fN (l:=.mk k0 ⟨c0,t0⟩ ks0 :: r) (i:=0) (by simp)
   simpa [foA] using this
  have hg1 : (cD (.mk k0 ⟨c0,t0⟩ ks0 :: r)).take 4 = [inA k0,inA c0,.sl (aJ t0) t0.length .none,.sl (cD ks0) ks0.length .none]:=by simpa using hg0
  have hfl:=dC (.mk k0 ⟨c0,t0⟩ ks0 :: r)
  have hln : ((0 : Int) < (((.mk k0 ⟨c0,t0⟩ ks0 :: r : List Fo).length : Nat) : Int)) = True:=eq_true (by rw [List.length_cons];omega)
  have hl4 : (4≤(.mk k0 ⟨c0,t0⟩ ks0 :: r : List Fo).length * 4) = True:=eq_true (by rw [List.length_cons];omega)
  rw [cH] at hl
  clear hIH hk4 hkk hoks
  generalize (.mk k0 ⟨c0,t0⟩ ks0 :: r : List Fo) = KS at *
  rcases hne with e | e | e
  ·obtain ⟨x,⟨fk,⟨fc,ft⟩,fks⟩⟩:=q
   simp only at e
   subst e
   rw [hC] at hl ⊢
   refine aD [] Tryz.func33 rfl Tryz.ntmps33 (Nat.le_of_ble_eq_true rfl) (Nat.le_of_ble_eq_true rfl) fun w0 G0 B0 Pr hB0=>?_
   simp only [aO,aA,List.cons_append,List.nil_append]
   repeat' (first | (with_reducible refine hY _ ?_;clear hY Y) | ((with_reducible first | refine an rfl (ar fun K' hK'=>aa ?_) | refine hK' _ (ab fun Y hY=>aa ?_) | refine ab fun Y hY=>aa ?_ | refine ae tk0 aF (ab fun Y hY=>aa ?_) | refine aa ?_ | refine ao ?_);(try clear hK' K');(try dsimp only [aop]);try simp only [go_sem,seval,-Int.reduceNatCast,-Int.reduceNatCast',aF,Tryz.results33,hg0,hg1,hfl,hln,hl4]) | (with_reducible first | refine af ?_ | refine ai ?_ | refine aj ?_ | refine ay fun K hK=>?_ | refine ap ?_ | refine aq ?_ | refine aS ?_ | refine bb ?_ | refine al ?_ | refine au ?_) | (with_reducible refine hK _ ?_;clear hK K) | ((with_reducible refine ag ?_ ?_);(· decide)) | (with_reducible refine ah (hl) ?_))
  ·rw [e,iT] at hl ⊢
   refine aD [] Tryz.func33 rfl Tryz.ntmps33 (Nat.le_of_ble_eq_true rfl) (Nat.le_of_ble_eq_true rfl) fun w0 G0 B0 Pr hB0=>?_
   simp only [aO,aA,List.cons_append,List.nil_append]
   repeat' (first | (with_reducible refine hY _ ?_;clear hY Y) | ((with_reducible first | refine an rfl (ar fun K' hK'=>aa ?_) | refine hK' _ (ab fun Y hY=>aa ?_) | refine ab fun Y hY=>aa ?_ | refine ae tk0 aF (ab fun Y hY=>aa ?_) | refine aa ?_ | refine ao ?_);(try clear hK' K');(try dsimp only [aop]);try simp only [go_sem,seval,-Int.reduceNatCast,-Int.reduceNatCast',aF,Tryz.results33,hg0,hg1,hfl,hln,hl4]) | (with_reducible first | refine af ?_ | refine ai ?_ | refine aj ?_ | refine ay fun K hK=>?_ | refine ap ?_ | refine aq ?_ | refine aS ?_ | refine bb ?_ | refine al ?_ | refine au ?_) | (with_reducible refine hK _ ?_;clear hK K) | ((with_reducible refine ag ?_ ?_);(· decide)) | (with_reducible refine ah (hl) ?_))
  ·rw [e,ju] at hl ⊢
   refine aD [] Tryz.func33 rfl Tryz.ntmps33 (Nat.le_of_ble_eq_true rfl) (Nat.le_of_ble_eq_true rfl) fun w0 G0 B0 Pr hB0=>?_
   simp only [aO,aA,List.cons_append,List.nil_append]
   repeat' (first | (with_reducible refine hY _ ?_;clear hY Y) | ((with_reducible first | refine an rfl (ar fun K' hK'=>aa ?_) | refine hK' _ (ab fun Y hY=>aa ?_) | refine ab fun Y hY=>aa ?_ | refine ae tk0 aF (ab fun Y hY=>aa ?_) | refine aa ?_ | refine ao ?_);(try clear hK' K');(try dsimp only [aop]);try simp only [go_sem,seval,-Int.reduceNatCast,-Int.reduceNatCast',aF,Tryz.results33,hg0,hg1,hfl,hln,hl4]) | (with_reducible first | refine af ?_ | refine ai ?_ | refine aj ?_ | refine ay fun K hK=>?_ | refine ap ?_ | refine aq ?_ | refine aS ?_ | refine bb ?_ | refine al ?_ | refine au ?_) | (with_reducible refine hK _ ?_;clear hK K) | ((with_reducible refine ag ?_ ?_);(· decide)) | (with_reducible refine ah (hl) ?_))
 rw [if_neg hk]
 have hk' : (k = 4) = False:=eq_false hk
 by_cases h56 : k = 5∨k = 6
 ·rw [if_pos h56]
  have hqe:=pB ks no []
  have hql:=n3 no ks []
  have hq0 : dx (ks.drop 0) no [] = dx ks no []:=by rw [List.drop_zero]
  generalize dx ks no [] = q at *
  rw [List.length_nil,Nat.zero_add] at hql
  obtain ⟨k',hk1⟩ : ∃ k',k' = if no then 11 - k else k:=⟨_,rfl⟩
  rw [← hk1]
  refine dB (r:=if q.1 = 0 then .tup [.agg [inA k',inA 0,.sl [] 0 .full,.sl (cD q.2) ks.length .none],.c .nilIface] else zF (b9 q.1)) ?_ 6 (by
   by_cases h : q.1 = 0
   ·rw [if_pos h,if_pos h]
    simp [wkD,gL,foA,aJ,kx,cR,hql h]
   ·rw [if_neg h,if_neg h]
    rcases hqe with e | e | e
    ·exact absurd e h
    ·rw [e];simp [wkD,iT,di]
    ·rw [e];simp [wkD,ju,mo])
  have hk0 : no = true→IntKind.i64.wrap (11 - k) = k':=fun e=>by
   rw [hk1,if_pos e];exact aY (by omega) (by omega)
  have hk00 : no = false→k' = k:=fun e=>by rw [hk1,if_neg (by rw [e];decide)]
  clear hk1 hqe hql
  refine aD [] Tryz.func33 rfl Tryz.ntmps33 (Nat.le_of_ble_eq_true rfl) (Nat.le_of_ble_eq_true rfl) fun w0 G0 B0 Pr hB0=>?_
  simp only [aO,aA,List.cons_append,List.nil_append]
  apply kW (α:=Unit) (fun _=>[(1,.c (.bool no)),(2,.loc 10002 0),(4,.loc 10004 0),(6,.loc 10006 0),(10002,.bc [inA k,inA c,.sl (aJ t) t.length .none,.sl (cD ks) ks.length .none] 27),(10004,.bc z4 27),(10006,.bc [inA k',inA 0,.sl [] 0 .full,.sl [] 0 .full] 27)]) (fun _=>True)
  case use =>
   intro key
   by_cases hno : no = true
   ·have hk7:=hk0 hno
    by_cases h5 : k = 5
    ·have hkv : k' = 6:=by rw [← hk7,h5];rfl
     repeat' (first | (with_reducible refine hY _ ?_;clear hY Y) | ((with_reducible first | refine an rfl (ar fun K' hK'=>aa ?_) | refine hK' _ (ab fun Y hY=>aa ?_) | refine ab fun Y hY=>aa ?_);(try clear hK' K');(try dsimp only [aop]);try simp only [go_sem,seval,-Int.reduceNatCast,-Int.reduceNatCast',aF,Tryz.results33,h5,w6n,hno]) | (with_reducible first | refine af ?_ | refine ai ?_ | refine ay fun K hK=>?_ | refine ap ?_ | refine aq ?_ | refine al ?_ | refine av ?_) | ((with_reducible refine cq 12 ?_ ?_);(· rfl)) | ((with_reducible refine bD 12 tk0 aF ?_ (ab fun Y hY=>aa ?_));(· rfl);(try dsimp only [aop]);try simp only [go_sem,seval,-Int.reduceNatCast,-Int.reduceNatCast',aF,Tryz.results33,h5,w6n,hno]) | (with_reducible refine hK _ ?_;clear hK K) | ((with_reducible refine ag ?_ ?_);(· decide)))
     exact bL (L:=[1,2,4,6]) (by simp only [go_sem,seval,-Int.reduceNatCast,-Int.reduceNatCast',hno,h5,hkv];try exact rfl) (key () trivial)
    ·have h6 : k = 6:=h56.resolve_left h5
     have hkv : k' = 5:=by rw [← hk7,h6];rfl
     repeat' (first | (with_reducible refine hY _ ?_;clear hY Y) | ((with_reducible first | refine an rfl (ar fun K' hK'=>aa ?_) | refine hK' _ (ab fun Y hY=>aa ?_) | refine ab fun Y hY=>aa ?_);(try clear hK' K');(try dsimp only [aop]);try simp only [go_sem,seval,-Int.reduceNatCast,-Int.reduceNatCast',aF,Tryz.results33,h6,w5n,hno]) | (with_reducible first | refine af ?_ | refine ai ?_ | refine ay fun K hK=>?_ | refine ap ?_ | refine aq ?_ | refine al ?_) | ((with_reducible refine cq 12 ?_ ?_);(· rfl)) | ((with_reducible refine bD 12 tk0 aF ?_ (ab fun Y hY=>aa ?_));(· rfl);(try dsimp only [aop]);try simp only [go_sem,seval,-Int.reduceNatCast,-Int.reduceNatCast',aF,Tryz.results33,h6,w5n,hno]) | (with_reducible refine hK _ ?_;clear hK K) | ((with_reducible refine ag ?_ ?_);(· decide)))
     exact bL (L:=[1,2,4,6]) (by simp only [go_sem,seval,-Int.reduceNatCast,-Int.reduceNatCast',hno,h6,hkv];try exact rfl) (key () trivial)
   ·have hno' : no = false:=by cases no;rfl;exact absurd rfl hno
    have hk7:=hk00 hno'
    by_cases h5 : k = 5
    ·repeat' (first | (with_reducible refine hY _ ?_;clear hY Y) | ((with_reducible first | refine an rfl (ar fun K' hK'=>aa ?_) | refine hK' _ (ab fun Y hY=>aa ?_) | refine ab fun Y hY=>aa ?_);(try clear hK' K');(try dsimp only [aop]);try simp only [go_sem,seval,-Int.reduceNatCast,-Int.reduceNatCast',aF,Tryz.results33,h5,hno']) | (with_reducible first | refine af ?_ | refine ai ?_ | refine ay fun K hK=>?_ | refine ap ?_ | refine aq ?_ | refine al ?_ | refine av ?_) | ((with_reducible refine cq 12 ?_ ?_);(· rfl)) | ((with_reducible refine bD 12 tk0 aF ?_ (ab fun Y hY=>aa ?_));(· rfl);(try dsimp only [aop]);try simp only [go_sem,seval,-Int.reduceNatCast,-Int.reduceNatCast',aF,Tryz.results33,h5,hno']) | (with_reducible refine hK _ ?_;clear hK K) | ((with_reducible refine ag ?_ ?_);(· decide)))
     exact bL (L:=[1,2,4,6]) (by simp only [go_sem,seval,-Int.reduceNatCast,-Int.reduceNatCast',hno',hk7,h5];try exact rfl) (key () trivial)
    ·have h6 : k = 6:=h56.resolve_left h5
     repeat' (first | (with_reducible refine hY _ ?_;clear hY Y) | ((with_reducible first | refine an rfl (ar fun K' hK'=>aa ?_) | refine hK' _ (ab fun Y hY=>aa ?_) | refine ab fun Y hY=>aa ?_);(try clear hK' K');(try dsimp only [aop]);try simp only [go_sem,seval,-Int.reduceNatCast,-Int.reduceNatCast',aF,Tryz.results33,h6,hno']) | (with_reducible first | refine af ?_ | refine ai ?_ | refine ay fun K hK=>?_ | refine ap ?_ | refine aq ?_ | refine al ?_ | refine av ?_) | ((with_reducible refine cq 12 ?_ ?_);(· rfl)) | ((with_reducible refine bD 12 tk0 aF ?_ (ab fun Y hY=>aa ?_));(· rfl);(try dsimp only [aop]);try simp only [go_sem,seval,-Int.reduceNatCast,-Int.reduceNatCast',aF,Tryz.results33,h6,hno']) | (with_reducible refine hK _ ?_;clear hK K) | ((with_reducible refine ag ?_ ?_);(· decide)))
     exact bL (L:=[1,2,4,6]) (by simp only [go_sem,seval,-Int.reduceNatCast,-Int.reduceNatCast',hno',hk7,h6];try exact rfl) (key () trivial)
  case key =>
  rintro _ _
  repeat' (first | (with_reducible refine hY _ ?_;clear hY Y) | ((with_reducible first | refine an rfl (ar fun K' hK'=>aa ?_) | refine hK' _ (ab fun Y hY=>aa ?_) | refine ae tk0 aF (ab fun Y hY=>aa ?_));(try clear hK' K');(try dsimp only [aop]);try simp only [go_sem,seval,-Int.reduceNatCast,-Int.reduceNatCast',aF,Tryz.results33]) | (with_reducible first | refine af ?_ | refine ai ?_ | refine aj ?_ | refine ay fun K hK=>?_ | refine al ?_ | refine bG ?_) | (with_reducible refine hK _ ?_;clear hK K))
  refine eu (dm (b:=10064) (k0:=10006) (i:=3) 27 (by decide) (by decide) (by decide) rfl rfl rfl) ?_
  refine bK (α:=Nat × List Fo) (fun a=>[(1,.c (.bool no)),(4,.loc 10004 0),(6,.loc 10006 0),(44,.sl (cD ks) ks.length .none),(45,inA (ks.length : Int)),(46,inA (a.1 : Int)),(10004,.bc z4 27),(10006,.bc [inA k',inA 0,.sl [] 0 .full,.sl (cD a.2) a.1 (.tok 10064)] 27),(10064,.bt a.1 27)])
   (fun a=>a.1≤ks.length∧a.2.length = a.1∧dx (ks.drop a.1) no a.2 = q) (fun a=>ks.length - a.1) (0,[]) [1,4,6,44,45,46] ?_ ⟨Nat.zero_le _,rfl,hq0⟩ ?_
  ·simp only [go_sem,seval,-Int.reduceNatCast,-Int.reduceNatCast'] <;> rfl
  clear hq0 hk0 hk00
  rintro ⟨i,out⟩ ⟨hi,hol,hqi⟩ ih
  simp only at hi hol hqi ih ⊢
  by_cases hlt : i < ks.length
  ·have hlt' : ((i : Int) < (ks.length : Int)) = True:=eq_true (by omega)
   have hkw:=cf (n:=i) (by omega)
   have hg0:=fN hlt
   have hfl:=dC ks
   have hol2 : (cD out).length = i * 4:=by rw [dC,hol]
   have hc:=hIH ks[i] (List.getElem_mem hlt) no
   rw [sD no hlt] at hqi
   have hne:=kH ks[i] no
   have ihx:=fun o e1 e2=>ih (i + 1,o) ⟨by simp only;omega,e1,e2⟩ (by simp only;omega)
   clear ih hIH
   generalize dG ks[i] no = p at *
   generalize ks[i] = f at *
   obtain ⟨fk,⟨fc,ft⟩,fks⟩:=f
   rw [cH] at hg0 hc
   rcases hne with e | e | e
   ·obtain ⟨x,⟨rk,⟨rc,rt⟩,rks⟩⟩:=p
    simp only at e
    subst e
    rw [if_pos rfl] at hqi
    rw [hC] at hc
    have ih':=ihx _ (by simp only [List.length_append,List.length_cons,List.length_nil];omega) hqi
    rw [we,cH] at ih'
    clear ihx hqi
    generalize cD out = O at *
    repeat' (first | (with_reducible refine hY _ ?_;clear hY Y) | ((with_reducible first | refine an rfl (ar fun K' hK'=>aa ?_) | refine hK' _ (ab fun Y hY=>aa ?_) | refine ab fun Y hY=>aa ?_ | refine ae tk0 aF (ab fun Y hY=>aa ?_) | refine aa ?_);(try clear hK' K');(try dsimp only [aop]);try simp only [go_sem,seval,-Int.reduceNatCast,-Int.reduceNatCast',aF,Tryz.results33,hlt',hfl,hg0,hkw,hol2]) | (with_reducible first | refine af ?_ | refine ai ?_ | refine aj ?_ | refine ay fun K hK=>?_ | refine ap ?_ | refine aq ?_ | refine aU ?_ | refine al ?_ | refine av ?_) | (with_reducible refine hK _ ?_;clear hK K) | ((with_reducible refine ag ?_ ?_);(· decide)) | (with_reducible refine bp ?_ ?_;(· (try and_intros) <;> first | omega | assumption | (simp only [List.length_append,List.length_map,List.length_cons,List.length_nil] <;> omega))) | (with_reducible refine ah (hc) ?_) | (with_reducible refine ce (cr) ?_))
    refine bi [1,4,6,44,45,46] (by simp only [go_sem,seval,-Int.reduceNatCast,-Int.reduceNatCast'];exact rfl) ?_
    exact ih'
   ·rw [e] at hc hqi
    rw [if_neg (by decide)] at hqi
    subst hqi
    rw [if_neg (by decide)]
    rw [iT] at hc
    rw [show b9 ((5,fT).1,([] : List Fo)).1 = .ifc 50 (.c (.int .i64 5)) from rfl]
    clear ihx e
    generalize cD out = O at *
    repeat' (first | (with_reducible refine hY _ ?_;clear hY Y) | ((with_reducible first | refine an rfl (ar fun K' hK'=>aa ?_) | refine hK' _ (ab fun Y hY=>aa ?_) | refine ab fun Y hY=>aa ?_ | refine ae tk0 aF (ab fun Y hY=>aa ?_) | refine aa ?_ | refine ao ?_);(try clear hK' K');(try dsimp only [aop]);try simp only [go_sem,seval,-Int.reduceNatCast,-Int.reduceNatCast',aF,Tryz.results33,hlt',hfl,hg0,hkw,hol2]) | (with_reducible first | refine af ?_ | refine ai ?_ | refine aj ?_ | refine ay fun K hK=>?_ | refine ap ?_ | refine aS ?_ | refine bb ?_ | refine al ?_ | refine av ?_ | refine au ?_) | (with_reducible refine hK _ ?_;clear hK K) | ((with_reducible refine ag ?_ ?_);(· decide)) | (with_reducible refine bp ?_ ?_;(· (try and_intros) <;> first | omega | assumption | (simp only [List.length_append,List.length_map,List.length_cons,List.length_nil] <;> omega))) | (with_reducible refine ah (hc) ?_))
   ·rw [e] at hc hqi
    rw [if_neg (by decide)] at hqi
    subst hqi
    rw [if_neg (by decide)]
    rw [ju] at hc
    rw [show b9 ((3,fT).1,([] : List Fo)).1 = .ifc 50 (.c (.int .i64 3)) from rfl]
    clear ihx e
    generalize cD out = O at *
    repeat' (first | (with_reducible refine hY _ ?_;clear hY Y) | ((with_reducible first | refine an rfl (ar fun K' hK'=>aa ?_) | refine hK' _ (ab fun Y hY=>aa ?_) | refine ab fun Y hY=>aa ?_ | refine ae tk0 aF (ab fun Y hY=>aa ?_) | refine aa ?_ | refine ao ?_);(try clear hK' K');(try dsimp only [aop]);try simp only [go_sem,seval,-Int.reduceNatCast,-Int.reduceNatCast',aF,Tryz.results33,hlt',hfl,hg0,hkw,hol2]) | (with_reducible first | refine af ?_ | refine ai ?_ | refine aj ?_ | refine ay fun K hK=>?_ | refine ap ?_ | refine aS ?_ | refine bb ?_ | refine al ?_ | refine av ?_ | refine au ?_) | (with_reducible refine hK _ ?_;clear hK K) | ((with_reducible refine ag ?_ ?_);(· decide)) | (with_reducible refine bp ?_ ?_;(· (try and_intros) <;> first | omega | assumption | (simp only [List.length_append,List.length_map,List.length_cons,List.length_nil] <;> omega))) | (with_reducible refine ah (hc) ?_))
  ·have hlt' : ((i : Int) < (ks.length : Int)) = False:=eq_false (by omega)
   obtain rfl : q = (0,out):=by rw [← hqi,List.drop_eq_nil_of_le (by omega)];rfl
   rw [if_pos rfl]
   obtain rfl : i = ks.length:=by omega
   clear ih hIH hqi
   repeat' (first | (with_reducible refine hY _ ?_;clear hY Y) | ((with_reducible first | refine an rfl (ar fun K' hK'=>aa ?_) | refine hK' _ (ab fun Y hY=>aa ?_) | refine ab fun Y hY=>aa ?_ | refine ae tk0 aF (ab fun Y hY=>aa ?_) | refine aa ?_ | refine ao ?_);(try clear hK' K');(try dsimp only [aop]);try simp only [go_sem,seval,-Int.reduceNatCast,-Int.reduceNatCast',aF,Tryz.results33,hlt']) | (with_reducible first | refine af ?_ | refine ai ?_ | refine aj ?_ | refine ay fun K hK=>?_ | refine aq ?_ | refine bC ?_ | refine aS ?_ | refine bb ?_ | refine bg ?_ | refine au ?_ | refine bf ?_) | (with_reducible refine hK _ ?_;clear hK K) | ((with_reducible refine ag ?_ ?_);(· decide)))
 rw [if_neg h56]
 have k5 : (k = 5) = False:=eq_false fun e=>h56 (.inl e)
 have k6 : (k = 6) = False:=eq_false fun e=>h56 (.inr e)
 cases no with
 | false =>
  simp only [Bool.false_eq_true,if_false]
  rw [hC]
  clear hIH
  refine aD [] Tryz.func33 rfl Tryz.ntmps33 (Nat.le_of_ble_eq_true rfl) (Nat.le_of_ble_eq_true rfl) fun w0 G0 B0 Pr hB0=>?_
  simp only [aO,aA,List.cons_append,List.nil_append]
  repeat' (first | (with_reducible refine hY _ ?_;clear hY Y) | ((with_reducible first | refine an rfl (ar fun K' hK'=>aa ?_) | refine hK' _ (ab fun Y hY=>aa ?_) | refine ab fun Y hY=>aa ?_ | refine ae tk0 aF (ab fun Y hY=>aa ?_) | refine aa ?_ | refine ao ?_);(try clear hK' K');(try dsimp only [aop]);try simp only [go_sem,seval,-Int.reduceNatCast,-Int.reduceNatCast',aF,Tryz.results33,k2,k3,hk',k5,k6]) | (with_reducible first | refine af ?_ | refine ai ?_ | refine aj ?_ | refine ay fun K hK=>?_ | refine aq ?_ | refine aU ?_ | refine al ?_ | refine av ?_ | refine au ?_) | (with_reducible refine hK _ ?_;clear hK K) | ((with_reducible refine ag ?_ ?_);(· decide)))
 | true =>
  simp only [if_true]
  have hop:=wV (.mk k ⟨c,t⟩ ks) hk4
  rw [cH] at hop
  generalize lh (.mk k ⟨c,t⟩ ks) = oa at *
  obtain ⟨ok,⟨oc,ot⟩,oks⟩:=oa
  rw [cH] at hop
  rw [hC]
  clear hIH
  refine aD [] Tryz.func33 rfl Tryz.ntmps33 (Nat.le_of_ble_eq_true rfl) (Nat.le_of_ble_eq_true rfl) fun w0 G0 B0 Pr hB0=>?_
  simp only [aO,aA,List.cons_append,List.nil_append]
  repeat' (first | (with_reducible refine hY _ ?_;clear hY Y) | ((with_reducible first | refine an rfl (ar fun K' hK'=>aa ?_) | refine hK' _ (ab fun Y hY=>aa ?_) | refine ab fun Y hY=>aa ?_ | refine ae tk0 aF (ab fun Y hY=>aa ?_) | refine aa ?_ | refine ao ?_);(try clear hK' K');(try dsimp only [aop]);try simp only [go_sem,seval,-Int.reduceNatCast,-Int.reduceNatCast',aF,Tryz.results33,k2,k3,hk',k5,k6]) | (with_reducible first | refine af ?_ | refine ai ?_ | refine aj ?_ | refine ay fun K hK=>?_ | refine ap ?_ | refine aq ?_ | refine aS ?_ | refine aU ?_ | refine al ?_ | refine av ?_ | refine au ?_) | (with_reducible refine hK _ ?_;clear hK K) | ((with_reducible refine ag ?_ ?_);(· decide)) | (with_reducible refine ah (hop) ?_))
end Go.Proofs.YtmpdocplcgbpkaaGreatDoor
namespace Go.Proofs.YtmpdocplcgbpkaaGreatDoor
set_option linter.unusedSimpArgs false
set_option linter.unusedVariables false
open Go.RowKit
theorem uz {t : List Tm} {k : Nat} (h : k < t.length) (g : Nat) : eB g (t.take (k + 1)) = Nat.gcd (eB g (t.take k)) t[k].2.natAbs:=by
 have e : ∀ (a : List Tm) (m : Tm) (g : Nat),eB g (a ++ [m]) = Nat.gcd (eB g a) m.2.natAbs:=by
  intro a
  induction a with
  | nil=>intro m g;rfl
  | cons x r ih=>intro m g;rw [List.cons_append,eB,ih,eB]
 rw [List.take_succ_eq_append_getElem h,e]
def ci : Nat→List Nat
 | 0=>[0]
 | 1=>[1]
 | 2=>[]
 | 3=>[1]
 | 4=>[1,3]
 | 5=>[3,12,13,14]
 | 6=>[3,12,13,14]
 | 7=>[3,5,12,13,14]
 | 8=>[6,7,12,13,14]
 | 9=>[6,7,12,13,14]
 | 10=>[6,12,13,14]
 | 11=>[3,12,13,14]
 | 12=>[3]
 | _=>[]
set_option maxRecDepth 100000 in
set_option maxHeartbeats 8000000 in
theorem zS (l : Ln) (hl : cY l = true) : AFn Tryz.prog 118 [.agg (lnA l)] [] (inA (eB 0 l.t : Int)) []:=by
 have hck : AFn Tryz.prog 78 [.agg (lnA l)] [] (.c .nilIface) []:=by
  have:=d3 l
  rw [show ip l = b9 0 by unfold ip;rw [hl];rfl] at this
  exact this
 obtain ⟨_,h64,hm⟩:=ef hl
 obtain ⟨c,t⟩:=l
 simp only at h64 hm ⊢
 clear hl
 refine aD [] Tryz.func118 rfl Tryz.ntmps118 (Nat.le_of_ble_eq_true rfl) (Nat.le_of_ble_eq_true rfl) fun w0 G0 B0 Pr hB0=>?_
 simp only [aO,aA,List.cons_append,List.nil_append]
 repeat' (first | (with_reducible refine hY _ ?_;clear hY Y) | ((with_reducible first | refine an rfl (ar fun K' hK'=>aa ?_) | refine hK' _ (ab fun Y hY=>aa ?_) | refine ab fun Y hY=>aa ?_ | refine ae tk0 ci (ab fun Y hY=>aa ?_) | refine aa ?_);(try clear hK' K');(try dsimp only [aop]);try simp only [go_sem,↓reduceIte,Nat.reduceEqDiff,Nat.reduceLT,Nat.reduceLeDiff,Nat.reduceAdd,Nat.reduceSub,Nat.reduceMul,Nat.reduceBEq,Nat.reduceBNe,Nat.reducePow,Int.reduceToNat,Int.reduceLE,Int.reduceLT,Int.reduceMul,Int.reduceEq,Int.reducePow,Int.reduceAdd,Int.reduceSub,Int.reduceNeg,reduceCtorEq,ci,Tryz.results118]) | (with_reducible first | refine af ?_ | refine ai ?_ | refine aj ?_ | refine ay fun K hK=>?_ | refine aq ?_ | refine al ?_ | refine av ?_ | refine bG ?_) | (with_reducible refine hK _ ?_;clear hK K) | ((with_reducible refine ag ?_ ?_);(· decide)) | (with_reducible refine ah (hck) ?_) | (with_reducible refine ce (cr) ?_))
 refine bK (α:=Nat) (fun k=>[(3,inA (eB 0 (t.take k) : Int)),(12,.sl (aJ t) t.length .none),(13,inA (t.length : Int)),(14,inA (k : Int))])
  (fun k=>k≤t.length) (fun k=>t.length - k) 0 [3,12,13,14] ?_ (Nat.zero_le _) ?_
 ·simp only [go_sem,↓reduceIte,Nat.reduceEqDiff,Nat.reduceLT,Nat.reduceLeDiff,Nat.reduceAdd,Nat.reduceSub,Nat.reduceMul,Nat.reduceBEq,Nat.reduceBNe,Nat.reducePow,Int.reduceToNat,Int.reduceLE,Int.reduceLT,Int.reduceMul,Int.reduceEq,Int.reducePow,Int.reduceAdd,Int.reduceSub,Int.reduceNeg,reduceCtorEq] <;> rfl
 intro k hk ih
 by_cases hlt : k < t.length
 ·have hlt' : ((k : Int) < (t.length : Int)) = True:=eq_true (by omega)
  have hkw:=cf (n:=k) (by omega)
  have hg0:=ez hlt
  have hfl:=cl t
  have hmk:=hm _ (List.getElem_mem hlt)
  have hgt:=uz hlt 0
  have ih':=ih (k + 1) (by omega) (by omega)
  rw [hgt] at ih'
  clear ih hck hgt hm
  generalize t[k] = m at *
  obtain ⟨v,x⟩:=m
  obtain ⟨_,_,b3,b4⟩:=hmk
  simp only at b3 b4 hg0 ih'
  generalize eB 0 (t.take k) = g at *
  have hw : IntKind.i64.wrap (0 - x) = -x:=by rw [aY (by omega) (by omega)];omega
  have hw2 : IntKind.i64.wrap (-x) = -x:=aY (by omega) (by omega)
  have hmx : (if -x > x then -x else x) = (x.natAbs : Int):=by split <;> omega
  have hmx2 : (if x < -x then -x else x) = (x.natAbs : Int):=by split <;> omega
  have hB : x.natAbs≤1073741824:=by omega
  generalize x.natAbs = X at *
  repeat' (first | (with_reducible refine hY _ ?_;clear hY Y) | ((with_reducible first | refine an rfl (ar fun K' hK'=>aa ?_) | refine hK' _ (ab fun Y hY=>aa ?_) | refine ab fun Y hY=>aa ?_ | refine ae tk0 ci (ab fun Y hY=>aa ?_) | refine cV rfl (cT fun K' hK'=>aa ?_) | refine hK' _ _ (ab fun Y hY=>aa ?_));(try clear hK' K');(try dsimp only [aop]);try simp only [go_sem,↓reduceIte,Nat.reduceEqDiff,Nat.reduceLT,Nat.reduceLeDiff,Nat.reduceAdd,Nat.reduceSub,Nat.reduceMul,Nat.reduceBEq,Nat.reduceBNe,Nat.reducePow,Int.reduceToNat,Int.reduceLE,Int.reduceLT,Int.reduceMul,Int.reduceEq,Int.reducePow,Int.reduceAdd,Int.reduceSub,Int.reduceNeg,reduceCtorEq,ci,Tryz.results118,hlt',hfl,hg0,hw,hw2,hmx,hmx2]) | (with_reducible first | refine af ?_ | refine ai ?_ | refine aj ?_ | refine ay fun K hK=>?_ | refine ap ?_ | refine al ?_ | refine av ?_ | refine bG ?_ | refine ch ?_ | refine eN fun K hK=>?_) | (with_reducible refine hK _ ?_;clear hK K) | (with_reducible refine hK _ _ ?_ ?_;(· kernel_rfl);clear hK K) | ((with_reducible refine ag ?_ ?_);(· decide)) | (with_reducible refine cg tk0 ci ?_ ?_;(· kernel_rfl)) | (with_reducible refine bp ?_ ?_;(· (try and_intros) <;> first | omega | assumption | (simp only [List.length_append,List.length_map,List.length_cons,List.length_nil] <;> omega))))
  refine bK (α:=Nat × Nat) (fun a=>[(6,inA (a.1 : Int)),(7,inA (a.2 : Int)),(12,.sl (aJ t) t.length .none),(13,inA (t.length : Int)),(14,inA (k : Int))])
   (fun a=>Nat.gcd a.1 a.2 = Nat.gcd g X∧a.2≤1073741824) (fun a=>a.2) (g,X) [6,7,12,13,14] ?_ ⟨rfl,hB⟩ ?_
  ·simp only [go_sem,↓reduceIte,Nat.reduceEqDiff,Nat.reduceLT,Nat.reduceLeDiff,Nat.reduceAdd,Nat.reduceSub,Nat.reduceMul,Nat.reduceBEq,Nat.reduceBNe,Nat.reducePow,Int.reduceToNat,Int.reduceLE,Int.reduceLT,Int.reduceMul,Int.reduceEq,Int.reducePow,Int.reduceAdd,Int.reduceSub,Int.reduceNeg,reduceCtorEq] <;> rfl
  rintro ⟨a,b⟩ ⟨hab,hb⟩ ihi
  simp only at hab hb ihi ⊢
  by_cases hp : 0 < b
  ·have hp' : ((0 : Int) < (b : Int)) = True:=eq_true (by omega)
   have hb0 : ((b : Int) = 0) = False:=eq_false (by omega)
   have hmod:=Nat.mod_lt a hp
   have hr : IntKind.i64.wrap ((a : Int).tmod (b : Int)) = ((a % b : Nat) : Int):=by
    rw [show (a : Int).tmod (b : Int) = ((a % b : Nat) : Int) from rfl,aY (by omega) (by omega)]
   have ihi':=ihi (b,a % b) ⟨by rw [← hab,Nat.gcd_comm b,← Nat.gcd_rec,Nat.gcd_comm],by omega⟩ hmod
   clear ihi ih'
   simp only at ihi'
   repeat' (first | (with_reducible refine hY _ ?_;clear hY Y) | ((with_reducible first | refine an rfl (ar fun K' hK'=>aa ?_) | refine hK' _ (ab fun Y hY=>aa ?_) | refine ab fun Y hY=>aa ?_ | refine ae tk0 ci (ab fun Y hY=>aa ?_) | refine cV rfl (cT fun K' hK'=>aa ?_) | refine hK' _ _ (ab fun Y hY=>aa ?_));(try clear hK' K');(try dsimp only [aop]);try simp only [go_sem,↓reduceIte,Nat.reduceEqDiff,Nat.reduceLT,Nat.reduceLeDiff,Nat.reduceAdd,Nat.reduceSub,Nat.reduceMul,Nat.reduceBEq,Nat.reduceBNe,Nat.reducePow,Int.reduceToNat,Int.reduceLE,Int.reduceLT,Int.reduceMul,Int.reduceEq,Int.reducePow,Int.reduceAdd,Int.reduceSub,Int.reduceNeg,reduceCtorEq,ci,Tryz.results118,hp',hb0,hr]) | (with_reducible first | refine af ?_ | refine ai ?_ | refine aj ?_ | refine ay fun K hK=>?_ | refine ap ?_ | refine aU ?_ | refine al ?_ | refine av ?_ | refine ch ?_ | refine eN fun K hK=>?_) | (with_reducible refine hK _ ?_;clear hK K) | (with_reducible refine hK _ _ ?_ ?_;(· kernel_rfl);clear hK K) | ((with_reducible refine ag ?_ ?_);(· decide)) | (with_reducible refine cg tk0 ci ?_ ?_;(· kernel_rfl)))
   refine bi [6,7,12,13,14] (by simp only [go_sem,↓reduceIte,Nat.reduceEqDiff,Nat.reduceLT,Nat.reduceLeDiff,Nat.reduceAdd,Nat.reduceSub,Nat.reduceMul,Nat.reduceBEq,Nat.reduceBNe,Nat.reducePow,Int.reduceToNat,Int.reduceLE,Int.reduceLT,Int.reduceMul,Int.reduceEq,Int.reducePow,Int.reduceAdd,Int.reduceSub,Int.reduceNeg,reduceCtorEq];exact rfl) ?_
   exact ihi'
  ·have hp' : ((0 : Int) < (b : Int)) = False:=eq_false (by omega)
   obtain rfl : b = 0:=by omega
   rw [Nat.gcd_zero_right] at hab
   rw [← hab] at ih'
   clear ihi
   repeat' (first | (with_reducible refine hY _ ?_;clear hY Y) | ((with_reducible first | refine an rfl (ar fun K' hK'=>aa ?_) | refine hK' _ (ab fun Y hY=>aa ?_) | refine ab fun Y hY=>aa ?_ | refine ae tk0 ci (ab fun Y hY=>aa ?_));(try clear hK' K');(try dsimp only [aop]);try simp only [go_sem,↓reduceIte,Nat.reduceEqDiff,Nat.reduceLT,Nat.reduceLeDiff,Nat.reduceAdd,Nat.reduceSub,Nat.reduceMul,Nat.reduceBEq,Nat.reduceBNe,Nat.reducePow,Int.reduceToNat,Int.reduceLE,Int.reduceLT,Int.reduceMul,Int.reduceEq,Int.reducePow,Int.reduceAdd,Int.reduceSub,Int.reduceNeg,reduceCtorEq,ci,Tryz.results118,hp',hkw]) | (with_reducible first | refine af ?_ | refine ai ?_ | refine aj ?_ | refine ay fun K hK=>?_ | refine aq ?_ | refine bC ?_ | refine aU ?_ | refine bg ?_ | refine bf ?_) | (with_reducible refine hK _ ?_;clear hK K) | ((with_reducible refine ag ?_ ?_);(· decide)))
   refine bi [3,12,13,14] (by simp only [go_sem,↓reduceIte,Nat.reduceEqDiff,Nat.reduceLT,Nat.reduceLeDiff,Nat.reduceAdd,Nat.reduceSub,Nat.reduceMul,Nat.reduceBEq,Nat.reduceBNe,Nat.reducePow,Int.reduceToNat,Int.reduceLE,Int.reduceLT,Int.reduceMul,Int.reduceEq,Int.reducePow,Int.reduceAdd,Int.reduceSub,Int.reduceNeg,reduceCtorEq];exact rfl) ?_
   exact ih'
 ·have hlt' : ((k : Int) < (t.length : Int)) = False:=eq_false (by omega)
  rw [List.take_of_length_le (by omega)]
  clear ih hck
  repeat' (first | (with_reducible refine hY _ ?_;clear hY Y) | ((with_reducible first | refine an rfl (ar fun K' hK'=>aa ?_) | refine hK' _ (ab fun Y hY=>aa ?_) | refine ab fun Y hY=>aa ?_ | refine ae tk0 ci (ab fun Y hY=>aa ?_) | refine aa ?_ | refine ao ?_);(try clear hK' K');(try dsimp only [aop]);try simp only [go_sem,↓reduceIte,Nat.reduceEqDiff,Nat.reduceLT,Nat.reduceLeDiff,Nat.reduceAdd,Nat.reduceSub,Nat.reduceMul,Nat.reduceBEq,Nat.reduceBNe,Nat.reducePow,Int.reduceToNat,Int.reduceLE,Int.reduceLT,Int.reduceMul,Int.reduceEq,Int.reducePow,Int.reduceAdd,Int.reduceSub,Int.reduceNeg,reduceCtorEq,ci,Tryz.results118,hlt']) | (with_reducible first | refine af ?_ | refine ai ?_ | refine aj ?_ | refine ay fun K hK=>?_ | refine aq ?_ | refine bC ?_ | refine bg ?_ | refine au ?_ | refine bf ?_) | (with_reducible refine hK _ ?_;clear hK K) | ((with_reducible refine ag ?_ ?_);(· decide)))
theorem AM (f : Fo) (h1 : OkF f) (h2 : kOk f) (no : Bool) : AFn Tryz.prog 33 [.agg (foA f),.c (.bool no)] [] (gL (dG f no)) []:=yT zS f h1 h2 no
end Go.Proofs.YtmpdocplcgbpkaaGreatDoor
