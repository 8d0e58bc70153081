/- Statements' and procedures' cells, as they are read without being written out. No program is in sight. How deep programs are, in K. How deep statements are, in K (printed by gen_ds.py). -/
import Derived.Test.YtkjnkkmokojnpaaGreatDoorZ8
import Derived.Test.YtkjnkkmokojnpaaGreatDoorZ4
namespace Go.Proofs.YtkjnkkmokojnpaaGreatDoor
set_option linter.unusedSimpArgs false
set_option linter.unusedVariables false
open Go.RowKit
theorem qd : ∀ a b : List AV,eG (a ++ b) = (eG a && eG b)
 | [],b=>by simp [eG]
 | x :: r,b=>by rw [List.cons_append,eG,eG,qd r b,Bool.and_assoc]
theorem zV (f : AV→Option AV) {a b a' b' : List AV} (h : a.mapM f = some a') (k : b.mapM f = some b') : (a ++ b).mapM f = some (a' ++ b'):=by
 rw [List.mapM_append,h,k];rfl
abbrev OneP (l : List AV) : Prop:=eG l = true∧l.mapM (fd 4) = some l
theorem OneP.app {a b : List AV} (h : OneP a) (k : OneP b) : OneP (a ++ b):=⟨by rw [qd,h.1,k.1];rfl,zV _ h.2 k.2⟩
theorem u1 : ∀ e,OneP (peA e)
 | .mk k n x ks=>⟨rfl,rfl⟩
theorem Aj : ∀ e,OneP (bR e)
 | .mk k e ks=>⟨rfl,rfl⟩
theorem Ah : ∀ e,OneP (paA e)
 | .mk k c e v f n ks=>by
  rw [paA]
  exact OneP.app ⟨rfl,rfl⟩ ((Aj c).app ((u1 e).app ((u1 v).app ⟨rfl,rfl⟩)))
theorem An : ∀ e,OneP (psA e)
 | .mk k x f y e v c a rs gs fs b l=>by
  rw [psA]
  exact OneP.app ⟨rfl,rfl⟩ ((u1 e).app ((u1 v).app ((Aj c).app ((Ah a).app ⟨rfl,rfl⟩))))
theorem Fc (p : PP) : OneP (ppA p):=OneP.app ⟨rfl,rfl⟩ ((Ah p.pre).app ((Ah p.post).app ⟨rfl,rfl⟩))
def FlatP (l : List AV) : Prop:=∀ x ∈ l,(∃ v,x = .c v)∨∃ cs n,x = .sl cs n .none
theorem FlatP.app {a b : List AV} (h : FlatP a) (k : FlatP b) : FlatP (a ++ b):=fun x hx=>(List.mem_append.1 hx).elim (h x) (k x)
theorem dR {x : AV} {l : List AV} (h : (∃ v,x = .c v)∨∃ cs n,x = .sl cs n .none) (k : FlatP l) : FlatP (x :: l):=fun y hy=>by
 rcases List.mem_cons.1 hy with rfl | hy
 ·exact h
 ·exact k y hy
theorem kg : FlatP []:=fun x hx=>absurd hx List.not_mem_nil
theorem FlatP.nm {l : List AV} (h : FlatP l) (n : Nat) : l.flatMap (names true (n + 1)) = []:=by
 induction l with
 | nil=>rfl
 | cons x r ih =>
  rw [List.flatMap_cons,ih fun y hy=>h y (by simp [hy])]
  rcases h x (by simp) with ⟨v,rfl⟩ | ⟨cs,m,rfl⟩ <;> rfl
theorem FlatP.rn {l : List AV} (h : FlatP l) (g : List (Nat × Nat)) (n : Nat) : l.map (ren g (n + 1)) = l:=by
 induction l with
 | nil=>rfl
 | cons x r ih =>
  rw [List.map_cons,ih fun y hy=>h y (by simp [hy])]
  rcases h x (by simp) with ⟨v,rfl⟩ | ⟨cs,m,rfl⟩ <;> rfl
theorem FlatP.nm3 {l : List AV} (h : FlatP l) : l.flatMap (names true 3) = []:=h.nm 2
theorem FlatP.rn3 {l : List AV} (h : FlatP l) (g : List (Nat × Nat)) : l.map (ren g 3) = l:=h.rn g 2
theorem cQ : ∀ e,FlatP (peA e)
 | .mk k n x ks=>dR (.inl ⟨_,rfl⟩) (dR (.inl ⟨_,rfl⟩) (dR (.inl ⟨_,rfl⟩) (dR (.inr ⟨_,_,rfl⟩) kg)))
theorem dv : ∀ e,FlatP (bR e)
 | .mk k e ks=>dR (.inl ⟨_,rfl⟩) (dR (.inr ⟨_,_,rfl⟩) (dR (.inr ⟨_,_,rfl⟩) kg))
theorem dV : ∀ e,FlatP (paA e)
 | .mk k c e v f n ks=>by
  rw [paA]
  exact FlatP.app (dR (.inl ⟨_,rfl⟩) kg) ((dv c).app ((cQ e).app ((cQ v).app (dR (.inl ⟨_,rfl⟩) (dR (.inl ⟨_,rfl⟩) (dR (.inr ⟨_,_,rfl⟩) kg))))))
theorem sJ : ∀ e,FlatP (psA e)
 | .mk k x f y e v c a rs gs fs b l=>by
  rw [psA]
  exact FlatP.app (dR (.inl ⟨_,rfl⟩) (dR (.inl ⟨_,rfl⟩) (dR (.inl ⟨_,rfl⟩) (dR (.inl ⟨_,rfl⟩) kg)))) ((cQ e).app ((cQ v).app ((dv c).app ((dV a).app
   (dR (.inr ⟨_,_,rfl⟩) (dR (.inr ⟨_,_,rfl⟩) (dR (.inr ⟨_,_,rfl⟩) (dR (.inr ⟨_,_,rfl⟩) (dR (.inr ⟨_,_,rfl⟩) kg)))))))))
theorem mm {A B C : List AV} {i n : Nat} (hA : A.length = i) (hB : B.length = n) : ((A ++ (B ++ C)).drop i).take n = B:=by
 rw [List.drop_left' hA,List.take_left' hB]
theorem l6 {A B : List AV} {i j : Nat} (hA : A.length = i) : (A ++ B).getD (i + j) .u = B.getD j .u:=by
 rw [List.getD_eq_getElem?_getD,List.getD_eq_getElem?_getD,List.getElem?_append_right (by omega)]
 rw [show i + j - A.length = j by omega]
structure StC (SC : List AV) (k : Int) (x f y : Wd) (e v : PE) (c : PC) (a : PA) (rs gs : List PE) (fs : List Wd) (b l : List PS') : Prop where
 one : eG SC = true
 pure : SC.mapM (fd 4) = some SC
 len : SC.length = 35
 g0 : SC.getD 0 .u = inA k
 g1 : SC.getD 1 .u = bs x
 g2 : SC.getD 2 .u = bs f
 g3 : SC.getD 3 .u = bs y
 s4 : (SC.drop 4).take 4 = peA e
 s8 : (SC.drop 8).take 4 = peA v
 s12 : (SC.drop 12).take 3 = bR c
 s15 : (SC.drop 15).take 15 = paA a
 g30 : SC.getD 30 .u = .sl (bY rs) rs.length .none
 g31 : SC.getD 31 .u = .sl (bY gs) gs.length .none
 g32 : SC.getD 32 .u = .sl (fs.map bs) fs.length .none
 g33 : SC.getD 33 .u = .sl (dU b) b.length .none
 g34 : SC.getD 34 .u = .sl (dU l) l.length .none
theorem gL (k : Int) (x f y : Wd) (e v : PE) (c : PC) (a : PA) (rs gs : List PE) (fs : List Wd) (b l : List PS') : StC (psA (.mk k x f y e v c a rs gs fs b l)) k x f y e v c a rs gs fs b l:=by
 have hp:=An (.mk k x f y e v c a rs gs fs b l)
 have hl:=kR (.mk k x f y e v c a rs gs fs b l)
 have he:=eZ e
 have hv:=eZ v
 have hc:=eR c
 have ha:=eY a
 rw [psA] at hp hl ⊢
 refine ⟨hp.1,hp.2,hl,rfl,rfl,rfl,rfl,?_,?_,?_,?_,?_,?_,?_,?_,?_⟩
 ·exact mm rfl he
 ·rw [← List.append_assoc];exact mm (by simp [he]) hv
 ·rw [← List.append_assoc,← List.append_assoc];exact mm (by simp [he,hv]) hc
 ·rw [← List.append_assoc,← List.append_assoc,← List.append_assoc];exact mm (by simp [he,hv,hc]) ha
 all_goals rw [← List.append_assoc,← List.append_assoc,← List.append_assoc,← List.append_assoc]
 ·exact l6 (i:=30) (j:=0) (by simp [he,hv,hc,ha])
 ·exact l6 (i:=30) (j:=1) (by simp [he,hv,hc,ha])
 ·exact l6 (i:=30) (j:=2) (by simp [he,hv,hc,ha])
 ·exact l6 (i:=30) (j:=3) (by simp [he,hv,hc,ha])
 ·exact l6 (i:=30) (j:=4) (by simp [he,hv,hc,ha])
structure PrC (XC : List AV) (x : PP) : Prop where
 one : eG XC = true
 pure : XC.mapM (fd 4) = some XC
 len : XC.length = 34
 g0 : XC.getD 0 .u = bs x.name
 g1 : XC.getD 1 .u = .sl (x.params.map bs) x.params.length .none
 g2 : XC.getD 2 .u = .sl (x.ghosts.map bs) x.ghosts.length .none
 s3 : (XC.drop 3).take 15 = paA x.pre
 s18 : (XC.drop 18).take 15 = paA x.post
 g33 : XC.getD 33 .u = .sl (dU x.body) x.body.length .none
theorem sI (x : PP) : PrC (ppA x) x:=by
 have hp:=Fc x
 have hl:=pR x
 have h1:=eY x.pre
 have h2:=eY x.post
 unfold ppA at hp hl ⊢
 refine ⟨hp.1,hp.2,hl,rfl,rfl,rfl,?_,?_,?_⟩
 ·exact mm rfl h1
 ·rw [← List.append_assoc];exact mm (by simp [h1]) h2
 ·rw [← List.append_assoc,← List.append_assoc];exact l6 (i:=33) (j:=0) (by simp [h1,h2])
end Go.Proofs.YtkjnkkmokojnpaaGreatDoor
namespace Go.Proofs.YtkjnkkmokojnpaaGreatDoor
set_option linter.unusedSimpArgs false
set_option linter.unusedVariables false
open Go.RowKit
theorem iT {α : Type} {f : α→Nat} {b : Nat} (h : ∀ x,f x≤b) : ∀ l : List α,mxN (l.map f)≤b
 | []=>Nat.zero_le _
 | a :: r=>by
  have:=h a
  have:=iT h r
  rw [List.map_cons,mxN];omega
theorem jc : ∀ b e,dE b e≤b + 1
 | 0,_=>Nat.le_refl _
 | b + 1,.mk _ _ _ ks=>by rw [dE];have:=iT (jc b) ks;omega
theorem ss : ∀ b e,dC b e≤b + 1
 | 0,_=>Nat.le_refl _
 | b + 1,.mk _ e ks=>by rw [dC];have:=iT (jc b) e;have:=iT (ss b) ks;omega
theorem wK : ∀ b e,dA b e≤b + 1
 | 0,_=>Nat.le_refl _
 | b + 1,.mk _ c e v _ _ ks=>by rw [dA];have:=ss b c;have:=jc b e;have:=jc b v;have:=iT (wK b) ks;omega
theorem wL : ∀ b e,dS b e≤b + 1
 | 0,_=>Nat.le_refl _
 | b + 1,.mk _ _ _ _ e v c a rs gs _ bd l=>by
  rw [dS];have:=ss b c;have:=jc b e;have:=jc b v;have:=wK b a;have:=iT (jc b) rs;have:=iT (jc b) gs;have:=iT (wL b) bd;have:=iT (wL b) l;omega
theorem zW : ∀ a b : List Nat,mxN (a ++ b) = max (mxN a) (mxN b)
 | [],b=>by simp [mxN]
 | x :: r,b=>by rw [List.cons_append,mxN,mxN,zW r b];omega
theorem jL {α : Type} (f : α→Nat) {l : List α} {k : Nat} (h : k < l.length) : mxN ((l.take (k + 1)).map f) = max (mxN ((l.take k).map f)) (f l[k]):=by
 rw [List.take_succ_eq_append_getElem h,List.map_append,zW]
 simp [mxN]
def eD : Nat→List Nat
 | 0=>[0,1]
 | 1=>[0,1]
 | 2=>[0]
 | 3=>[1]
 | _=>[]
set_option maxRecDepth 100000 in
theorem ke (a b : Nat) : AFn Tryz.prog 116 [inA (a : Int),inA (b : Int)] [] (inA ((max a b : Nat) : Int)) []:=by
 by_cases h : b < a
 ·rw [show max a b = a by omega]
  have h' : ((b : Int) < (a : Int)) = True:=eq_true (by omega)
  refine aC [] Tryz.func116 rfl Tryz.ntmps116 (Nat.le_of_ble_eq_true rfl) (Nat.le_of_ble_eq_true rfl) fun w0 G0 B0 Pr hB0=>?_
  simp only [aJ,aB,List.cons_append,List.nil_append]
  repeat' (first | (with_reducible refine hY _ ?_;clear hY Y) | ((with_reducible first | refine ar rfl (ay fun K' hK'=>aa ?_) | refine hK' _ (ab fun Y hY=>aa ?_) | refine ab fun Y hY=>aa ?_ | refine ae tk0 eD (ab fun Y hY=>aa ?_) | refine aa ?_ | refine aq ?_);(try clear hK' K');(try dsimp only [aop]);try simp only [go_sem,seval,-Int.reduceNatCast,-Int.reduceNatCast',eD,Tryz.results116,h']) | (with_reducible first | refine ag ?_ | refine aj ?_ | refine am ?_ | refine aF fun K hK=>?_ | refine ax ?_ | refine aZ ?_ | refine aA ?_) | (with_reducible refine hK _ ?_;clear hK K) | ((with_reducible refine ai ?_ ?_);(· decide)))
 ·rw [show max a b = b by omega]
  have h' : ((b : Int) < (a : Int)) = False:=eq_false (by omega)
  refine aC [] Tryz.func116 rfl Tryz.ntmps116 (Nat.le_of_ble_eq_true rfl) (Nat.le_of_ble_eq_true rfl) fun w0 G0 B0 Pr hB0=>?_
  simp only [aJ,aB,List.cons_append,List.nil_append]
  repeat' (first | (with_reducible refine hY _ ?_;clear hY Y) | ((with_reducible first | refine ar rfl (ay fun K' hK'=>aa ?_) | refine hK' _ (ab fun Y hY=>aa ?_) | refine ab fun Y hY=>aa ?_ | refine ae tk0 eD (ab fun Y hY=>aa ?_) | refine aa ?_ | refine aq ?_);(try clear hK' K');(try dsimp only [aop]);try simp only [go_sem,seval,-Int.reduceNatCast,-Int.reduceNatCast',eD,Tryz.results116,h']) | (with_reducible first | refine ag ?_ | refine aj ?_ | refine am ?_ | refine aF fun K hK=>?_ | refine av ?_ | refine aD ?_ | refine aA ?_) | (with_reducible refine hK _ ?_;clear hK K) | ((with_reducible refine ai ?_ ?_);(· decide)))
theorem eB {n : Nat} (h : n≤140737488351232) : IntKind.i64.wrap ((n : Int) + 1) = ((n + 1 : Nat) : Int):=by rw [bZ (by omega) (by omega)];rfl
def bD : Nat→List Nat
 | 0=>[0,1]
 | 1=>[1,2]
 | 2=>[1,2,5]
 | 3=>[1,2,5,6]
 | 4=>[1,2,5,6]
 | 5=>[1,2,5,6]
 | 6=>[5]
 | _=>[]
set_option maxRecDepth 100000 in
set_option maxHeartbeats 4000000 in
theorem uy (b : Nat) (hb : b≤100) (h : 0 < b→∀ e,OkE e→AFn Tryz.prog 118 [.agg (peA e),inA ((b - 1 : Nat) : Int)] [] (inA (dE (b - 1) e : Int)) []) (e : PE) (ho : OkE e) :
  AFn Tryz.prog 118 [.agg (peA e),inA (b : Int)] [] (inA (dE b e : Int)) []:=by
 obtain ⟨ek,en,ex,l⟩:=e
 obtain ⟨_,_,_,hl,ho⟩:=ho
 unfold Lg at hl
 simp only [peA]
 by_cases hb0 : b = 0
 ·subst hb0
  have h0 : dE 0 (.mk ek en ex l) = 1:=rfl
  rw [h0]
  by_cases hlt : 0 < l.length
  ·have hlt' : ((0 : Int) < (l.length : Int)) = True:=eq_true (by omega)
   refine aC [] Tryz.func118 rfl Tryz.ntmps118 (Nat.le_of_ble_eq_true rfl) (Nat.le_of_ble_eq_true rfl) fun w0 G0 B0 Pr hB0=>?_
   simp only [aJ,aB,List.cons_append,List.nil_append]
   repeat' (first | (with_reducible refine hY _ ?_;clear hY Y) | ((with_reducible first | refine ar rfl (ay fun K' hK'=>aa ?_) | refine hK' _ (ab fun Y hY=>aa ?_) | refine ae tk0 bD (ab fun Y hY=>aa ?_));(try clear hK' K');(try dsimp only [aop]);try simp only [go_sem,seval,-Int.reduceNatCast,-Int.reduceNatCast',bD,Tryz.results118]) | (with_reducible first | refine ag ?_ | refine aj ?_ | refine am ?_ | refine aF fun K hK=>?_ | refine ap ?_ | refine bW ?_) | (with_reducible refine hK _ ?_;clear hK K))
   refine b9 (α:=Unit) (fun _=>[(1,inA ((0 : Nat) : Int)),(2,.loc 10002 0),(5,inA 0),(6,inA 0),(10002,.bc [inA ek,inA en,bs ex,.sl (bY l) l.length .none] 47)])
    (fun _=>True) (fun _=>0) () [1,2,5,6] ?_ trivial ?_
   ·simp only [go_sem,seval,-Int.reduceNatCast,-Int.reduceNatCast'] <;> rfl
   intro _ _ ih
   repeat' (first | (with_reducible refine hY _ ?_;clear hY Y) | ((with_reducible first | refine ar rfl (ay fun K' hK'=>aa ?_) | refine hK' _ (ab fun Y hY=>aa ?_) | refine ba rfl (ab fun Y hY=>aa ?_) | refine ab fun Y hY=>aa ?_ | refine ay fun K' hK'=>aa ?_ | refine ae tk0 bD (ab fun Y hY=>aa ?_) | refine aa ?_ | refine aq ?_);(try clear hK' K');(try dsimp only [aop]);try simp only [go_sem,seval,-Int.reduceNatCast,-Int.reduceNatCast',bD,Tryz.results118,hlt']) | (with_reducible first | refine ag ?_ | refine aK ?_ | refine aj ?_ | refine am ?_ | refine aF fun K hK=>?_ | refine cf ?_ | refine bI ?_ | refine aA ?_ | refine bH ?_) | (with_reducible refine hK _ ?_;clear hK K) | ((with_reducible first | refine aI ?_ ?_ | refine ai ?_ ?_);(· decide)) | ((with_reducible refine fu (fun hc=>?_) (fun hc=>?_)) <;> (try simp only [decide_eq_true_eq,decide_eq_false_iff_not,Bool.not_true,Bool.not_false,Bool.not_eq_true',Bool.not_eq_false'] at hc) <;> (try (exfalso;omega))))
   all_goals (rfl)
  ·have hlt' : ((0 : Int) < (l.length : Int)) = False:=eq_false (by omega)
   refine aC [] Tryz.func118 rfl Tryz.ntmps118 (Nat.le_of_ble_eq_true rfl) (Nat.le_of_ble_eq_true rfl) fun w0 G0 B0 Pr hB0=>?_
   simp only [aJ,aB,List.cons_append,List.nil_append]
   repeat' (first | (with_reducible refine hY _ ?_;clear hY Y) | ((with_reducible first | refine ar rfl (ay fun K' hK'=>aa ?_) | refine hK' _ (ab fun Y hY=>aa ?_) | refine ae tk0 bD (ab fun Y hY=>aa ?_));(try clear hK' K');(try dsimp only [aop]);try simp only [go_sem,seval,-Int.reduceNatCast,-Int.reduceNatCast',bD,Tryz.results118]) | (with_reducible first | refine ag ?_ | refine aj ?_ | refine am ?_ | refine aF fun K hK=>?_ | refine ap ?_ | refine bW ?_) | (with_reducible refine hK _ ?_;clear hK K))
   refine b9 (α:=Unit) (fun _=>[(1,inA ((0 : Nat) : Int)),(2,.loc 10002 0),(5,inA 0),(6,inA 0),(10002,.bc [inA ek,inA en,bs ex,.sl (bY l) l.length .none] 47)])
    (fun _=>True) (fun _=>0) () [1,2,5,6] ?_ trivial ?_
   ·simp only [go_sem,seval,-Int.reduceNatCast,-Int.reduceNatCast'] <;> rfl
   intro _ _ ih
   repeat' (first | (with_reducible refine hY _ ?_;clear hY Y) | ((with_reducible first | refine ar rfl (ay fun K' hK'=>aa ?_) | refine hK' _ (ab fun Y hY=>aa ?_) | refine ba rfl (ab fun Y hY=>aa ?_) | refine ab fun Y hY=>aa ?_ | refine ae tk0 bD (ab fun Y hY=>aa ?_) | refine aa ?_ | refine aq ?_);(try clear hK' K');(try dsimp only [aop]);try simp only [go_sem,seval,-Int.reduceNatCast,-Int.reduceNatCast',bD,Tryz.results118,hlt']) | (with_reducible first | refine ag ?_ | refine aW rfl ?_ | refine dc ?_ ?_ | refine aj ?_ | refine am ?_ | refine aF fun K hK=>?_ | refine av ?_ | refine cf ?_ | refine bI ?_ | refine aA ?_ | refine bH ?_) | (with_reducible refine hK _ ?_;clear hK K) | ((with_reducible first | refine aI ?_ ?_ | refine ai ?_ ?_);(· decide)))
   all_goals (rfl)
 obtain ⟨c,rfl⟩ : ∃ c,b = c + 1:=⟨b - 1,by omega⟩
 have h:=h (by omega)
 simp only [Nat.add_sub_cancel] at h
 obtain ⟨n,hn⟩ : ∃ n : Int,n = ((c + 1 : Nat) : Int):=⟨_,rfl⟩
 rw [← hn]
 have hn0 : (0 < n) = True:=eq_true (by omega)
 have hnw : IntKind.i64.wrap (n - 1) = (c : Int):=by rw [bZ (by omega) (by omega)];omega
 refine aC [] Tryz.func118 rfl Tryz.ntmps118 (Nat.le_of_ble_eq_true rfl) (Nat.le_of_ble_eq_true rfl) fun w0 G0 B0 Pr hB0=>?_
 simp only [aJ,aB,List.cons_append,List.nil_append]
 repeat' (first | (with_reducible refine hY _ ?_;clear hY Y) | ((with_reducible first | refine ar rfl (ay fun K' hK'=>aa ?_) | refine hK' _ (ab fun Y hY=>aa ?_) | refine ae tk0 bD (ab fun Y hY=>aa ?_));(try clear hK' K');(try dsimp only [aop]);try simp only [go_sem,seval,-Int.reduceNatCast,-Int.reduceNatCast',bD,Tryz.results118]) | (with_reducible first | refine ag ?_ | refine aj ?_ | refine am ?_ | refine aF fun K hK=>?_ | refine ap ?_ | refine bW ?_) | (with_reducible refine hK _ ?_;clear hK K))
 refine b9 (α:=Nat) (fun k=>[(1,inA n),(2,.loc 10002 0),(5,inA (mxN ((l.take k).map (dE c)) : Int)),(6,inA (k : Int)),(10002,.bc [inA ek,inA en,bs ex,.sl (bY l) l.length .none] 47)])
  (fun k=>k≤l.length) (fun k=>l.length - k) 0 [1,2,5,6] ?_ (Nat.zero_le _) ?_
 ·simp only [go_sem,seval,-Int.reduceNatCast,-Int.reduceNatCast'] <;> rfl
 intro k hk ih
 have hkw:=eB (n:=k) (by omega)
 by_cases hlt : k < l.length
 ·have hlt' : ((k : Int) < (l.length : Int)) = True:=eq_true (by omega)
  have hg0:=kQ hlt
  have hfl:=iK l
  have hm:=jL (dE c) hlt
  have h1:=h l[k] (iU ho l[k] (List.getElem_mem hlt))
  generalize l[k] = t at *
  have h2:=ke (mxN ((l.take k).map (dE c))) (dE c t)
  rw [← hm] at h2
  obtain ⟨tk,tn,tx,ts⟩:=t
  simp only [peA] at hg0 h1
  generalize dE c (.mk tk tn tx ts) = q at *
  repeat' (first | (with_reducible refine hY _ ?_;clear hY Y) | ((with_reducible first | refine ar rfl (ay fun K' hK'=>aa ?_) | refine hK' _ (ab fun Y hY=>aa ?_) | refine ba rfl (ab fun Y hY=>aa ?_) | refine ab fun Y hY=>aa ?_ | refine ay fun K' hK'=>aa ?_ | refine ae tk0 bD (ab fun Y hY=>aa ?_) | refine aa ?_);(try clear hK' K');(try dsimp only [aop]);try simp only [go_sem,seval,-Int.reduceNatCast,-Int.reduceNatCast',bD,Tryz.results118,hlt',hn0,hnw,hfl,hg0,hkw]) | (with_reducible first | refine ag ?_ | refine aK ?_ | refine aj ?_ | refine am ?_ | refine aF fun K hK=>?_ | refine ax ?_ | refine aR ?_ | refine ap ?_ | refine aD ?_) | (with_reducible refine hK _ ?_;clear hK K) | ((with_reducible first | refine aI ?_ ?_ | refine ai ?_ ?_);(· decide)) | (with_reducible refine br ?_ ?_;(· (try and_intros) <;> first | omega | assumption | (simp only [List.length_append,List.length_map,List.length_cons,List.length_nil] <;> omega))) | (with_reducible refine ac (h1) ?_) | (with_reducible refine ac (h2) ?_))
  refine bi [1,2,5,6] (by simp only [go_sem,seval,-Int.reduceNatCast,-Int.reduceNatCast'];exact rfl) ?_
  exact ih (k + 1) (by omega) (by omega)
 ·have hlt' : ((k : Int) < (l.length : Int)) = False:=eq_false (by omega)
  obtain rfl : k = l.length:=by omega
  have hdw:=eB (n:=mxN (l.map (dE c))) (by have:=iT (jc c) l;omega)
  rw [List.take_length]
  repeat' (first | (with_reducible refine hY _ ?_;clear hY Y) | ((with_reducible first | refine ar rfl (ay fun K' hK'=>aa ?_) | refine hK' _ (ab fun Y hY=>aa ?_) | refine ba rfl (ab fun Y hY=>aa ?_) | refine ab fun Y hY=>aa ?_ | refine ae tk0 bD (ab fun Y hY=>aa ?_) | refine aa ?_ | refine aq ?_);(try clear hK' K');(try dsimp only [aop]);try simp only [go_sem,seval,-Int.reduceNatCast,-Int.reduceNatCast',bD,Tryz.results118,hlt',hdw]) | (with_reducible first | refine ag ?_ | refine aW rfl ?_ | refine dc ?_ ?_ | refine aj ?_ | refine am ?_ | refine aF fun K hK=>?_ | refine av ?_ | refine cf ?_ | refine bI ?_ | refine aA ?_ | refine bH ?_) | (with_reducible refine hK _ ?_;clear hK K) | ((with_reducible first | refine aI ?_ ?_ | refine ai ?_ ?_);(· decide)))
  rw [dE]
theorem iM : ∀ (b : Nat),b≤100→∀ e,OkE e→AFn Tryz.prog 118 [.agg (peA e),inA (b : Int)] [] (inA (dE b e : Int)) []
 | 0,hb,e,ho=>uy 0 hb (fun h=>absurd h (Nat.lt_irrefl 0)) e ho
 | b + 1,hb,e,ho=>uy (b + 1) hb (fun _=>iM b (by omega)) e ho
def bv : Nat→List Nat
 | 0=>[0,1]
 | 1=>[1,2]
 | 2=>[1,2,5]
 | 3=>[1,2,5,6]
 | 4=>[1,2,5,6]
 | 5=>[1,2,5,6]
 | 6=>[1,2,5]
 | 7=>[1,2,5,7]
 | 8=>[1,2,5,7]
 | 9=>[1,2,5,7]
 | 10=>[5]
 | _=>[]
set_option maxRecDepth 100000 in
set_option maxHeartbeats 8000000 in
theorem zf (c : Nat) (hb : c≤100) (h : ∀ e,OkC e→AFn Tryz.prog 117 [.agg (bR e),inA (c : Int)] [] (inA (dC c e : Int)) []) (e : PC) (ho : OkC e) (n : Int) (hn : n = ((c + 1 : Nat) : Int)) :
  AFn Tryz.prog 117 [.agg (bR e),inA n] [] (inA (dC (c + 1) e : Int)) []:=by
 obtain ⟨ek,es,ks⟩:=e
 obtain ⟨_,⟨hes,heo⟩,hks,hko⟩:=ho
 unfold Lg at hes hks
 simp only [bR]
 have hn0 : (0 < n) = True:=eq_true (by omega)
 have hnw : IntKind.i64.wrap (n - 1) = (c : Int):=by rw [bZ (by omega) (by omega)];omega
 refine aC [] Tryz.func117 rfl Tryz.ntmps117 (Nat.le_of_ble_eq_true rfl) (Nat.le_of_ble_eq_true rfl) fun w0 G0 B0 Pr hB0=>?_
 simp only [aJ,aB,List.cons_append,List.nil_append]
 repeat' (first | (with_reducible refine hY _ ?_;clear hY Y) | ((with_reducible first | refine ar rfl (ay fun K' hK'=>aa ?_) | refine hK' _ (ab fun Y hY=>aa ?_) | refine ae tk0 bv (ab fun Y hY=>aa ?_));(try clear hK' K');(try dsimp only [aop]);try simp only [go_sem,seval,-Int.reduceNatCast,-Int.reduceNatCast',bv,Tryz.results117]) | (with_reducible first | refine ag ?_ | refine aj ?_ | refine am ?_ | refine aF fun K hK=>?_ | refine ap ?_ | refine bW ?_) | (with_reducible refine hK _ ?_;clear hK K))
 refine b9 (α:=Nat) (fun k=>[(1,inA n),(2,.loc 10002 0),(5,inA (mxN ((es.take k).map (dE c)) : Int)),(6,inA (k : Int)),(10002,.bc [inA ek,.sl (bY es) es.length .none,.sl (db ks) ks.length .none] 51)])
  (fun k=>k≤es.length) (fun k=>es.length - k) 0 [1,2,5,6] ?_ (Nat.zero_le _) ?_
 ·simp only [go_sem,seval,-Int.reduceNatCast,-Int.reduceNatCast'] <;> rfl
 intro k hk ih
 have hkw:=eB (n:=k) (by omega)
 by_cases hlt : k < es.length
 ·have hlt' : ((k : Int) < (es.length : Int)) = True:=eq_true (by omega)
  have hg0:=kQ hlt
  have hfl:=iK es
  have hm:=jL (dE c) hlt
  have h1:=iM c hb es[k] (iU heo es[k] (List.getElem_mem hlt))
  generalize es[k] = t at *
  have h2:=ke (mxN ((es.take k).map (dE c))) (dE c t)
  rw [← hm] at h2
  obtain ⟨tk,tn,tx,ts⟩:=t
  simp only [peA] at hg0 h1
  generalize dE c (.mk tk tn tx ts) = q at *
  repeat' (first | (with_reducible refine hY _ ?_;clear hY Y) | ((with_reducible first | refine ar rfl (ay fun K' hK'=>aa ?_) | refine hK' _ (ab fun Y hY=>aa ?_) | refine ba rfl (ab fun Y hY=>aa ?_) | refine ab fun Y hY=>aa ?_ | refine ay fun K' hK'=>aa ?_ | refine ae tk0 bv (ab fun Y hY=>aa ?_) | refine aa ?_);(try clear hK' K');(try dsimp only [aop]);try simp only [go_sem,seval,-Int.reduceNatCast,-Int.reduceNatCast',bv,Tryz.results117,hlt',hn0,hnw,hfl,hg0,hkw]) | (with_reducible first | refine ag ?_ | refine aK ?_ | refine aj ?_ | refine am ?_ | refine aF fun K hK=>?_ | refine ax ?_ | refine aR ?_ | refine ap ?_ | refine aD ?_) | (with_reducible refine hK _ ?_;clear hK K) | ((with_reducible first | refine aI ?_ ?_ | refine ai ?_ ?_);(· decide)) | (with_reducible refine br ?_ ?_;(· (try and_intros) <;> first | omega | assumption | (simp only [List.length_append,List.length_map,List.length_cons,List.length_nil] <;> omega))) | (with_reducible refine ac (h1) ?_) | (with_reducible refine ac (h2) ?_))
  refine bi [1,2,5,6] (by simp only [go_sem,seval,-Int.reduceNatCast,-Int.reduceNatCast'];exact rfl) ?_
  exact ih (k + 1) (by omega) (by omega)
 have hlt' : ((k : Int) < (es.length : Int)) = False:=eq_false (by omega)
 obtain rfl : k = es.length:=by omega
 rw [List.take_length]
 clear ih hk hkw
 have hm1:=iT (jc c) es
 rw [dC]
 generalize mxN (es.map (dE c)) = M at *
 repeat' (first | (with_reducible refine hY _ ?_;clear hY Y) | ((with_reducible first | refine ar rfl (ay fun K' hK'=>aa ?_) | refine hK' _ (ab fun Y hY=>aa ?_) | refine ba rfl (ab fun Y hY=>aa ?_) | refine ab fun Y hY=>aa ?_ | refine ae tk0 bv (ab fun Y hY=>aa ?_) | refine aa ?_);(try clear hK' K');(try dsimp only [aop]);try simp only [go_sem,seval,-Int.reduceNatCast,-Int.reduceNatCast',bv,Tryz.results117,hlt']) | (with_reducible first | refine ag ?_ | refine aW rfl ?_ | refine dc ?_ ?_ | refine aj ?_ | refine am ?_ | refine aF fun K hK=>?_ | refine av ?_ | refine cf ?_ | refine bI ?_ | refine ap ?_ | refine bH ?_ | refine bW ?_) | (with_reducible refine hK _ ?_;clear hK K) | ((with_reducible first | refine aI ?_ ?_ | refine ai ?_ ?_);(· decide)))
 refine b9 (α:=Nat) (fun k=>[(1,inA n),(2,.loc 10002 0),(5,inA (max M (mxN ((ks.take k).map (dC c))) : Nat)),(7,inA (k : Int)),(10002,.bc [inA ek,.sl (bY es) es.length .none,.sl (db ks) ks.length .none] 51)])
  (fun k=>k≤ks.length) (fun k=>ks.length - k) 0 [1,2,5,7] ?_ (Nat.zero_le _) ?_
 ·simp only [go_sem,seval,-Int.reduceNatCast,-Int.reduceNatCast'] <;> simp [mxN]
 intro k hk ih
 have hkw:=eB (n:=k) (by omega)
 clear hlt' hlt
 by_cases hlt : k < ks.length
 ·have hlt' : ((k : Int) < (ks.length : Int)) = True:=eq_true (by omega)
  have hg0:=pP hlt
  have hfl:=lL ks
  have hm:=jL (dC c) hlt
  have h1:=h ks[k] (nR hko ks[k] (List.getElem_mem hlt))
  generalize ks[k] = t at *
  have h2:=ke (max M (mxN ((ks.take k).map (dC c)))) (dC c t)
  rw [show max (max M (mxN ((ks.take k).map (dC c)))) (dC c t) = max M (mxN ((ks.take (k + 1)).map (dC c))) by rw [hm];omega] at h2
  obtain ⟨tk,te,ts⟩:=t
  simp only [bR] at hg0 h1
  generalize dC c (.mk tk te ts) = q at *
  repeat' (first | (with_reducible refine hY _ ?_;clear hY Y) | ((with_reducible first | refine ar rfl (ay fun K' hK'=>aa ?_) | refine hK' _ (ab fun Y hY=>aa ?_) | refine ba rfl (ab fun Y hY=>aa ?_) | refine ab fun Y hY=>aa ?_ | refine ay fun K' hK'=>aa ?_ | refine ae tk0 bv (ab fun Y hY=>aa ?_) | refine aa ?_);(try clear hK' K');(try dsimp only [aop]);try simp only [go_sem,seval,-Int.reduceNatCast,-Int.reduceNatCast',bv,Tryz.results117,hlt',hn0,hnw,hfl,hg0,hkw]) | (with_reducible first | refine ag ?_ | refine aK ?_ | refine aj ?_ | refine am ?_ | refine aF fun K hK=>?_ | refine ax ?_ | refine aR ?_ | refine ap ?_ | refine aD ?_) | (with_reducible refine hK _ ?_;clear hK K) | ((with_reducible first | refine aI ?_ ?_ | refine ai ?_ ?_);(· decide)) | (with_reducible refine br ?_ ?_;(· (try and_intros) <;> first | omega | assumption | (simp only [List.length_append,List.length_map,List.length_cons,List.length_nil] <;> omega))) | (with_reducible refine ac (h1) ?_) | (with_reducible refine ac (h2) ?_))
  refine bi [1,2,5,7] (by simp only [go_sem,seval,-Int.reduceNatCast,-Int.reduceNatCast'];exact rfl) ?_
  exact ih (k + 1) (by omega) (by omega)
 have hlt' : ((k : Int) < (ks.length : Int)) = False:=eq_false (by omega)
 obtain rfl : k = ks.length:=by omega
 rw [List.take_length]
 have hm2:=iT (ss c) ks
 generalize mxN (ks.map (dC c)) = K2 at *
 have hdw:=eB (n:=max M K2) (by omega)
 repeat' (first | (with_reducible refine hY _ ?_;clear hY Y) | ((with_reducible first | refine ar rfl (ay fun K' hK'=>aa ?_) | refine hK' _ (ab fun Y hY=>aa ?_) | refine ba rfl (ab fun Y hY=>aa ?_) | refine ab fun Y hY=>aa ?_ | refine ae tk0 bv (ab fun Y hY=>aa ?_) | refine aa ?_ | refine aq ?_);(try clear hK' K');(try dsimp only [aop]);try simp only [go_sem,seval,-Int.reduceNatCast,-Int.reduceNatCast',bv,Tryz.results117,hlt',hdw]) | (with_reducible first | refine ag ?_ | refine aW rfl ?_ | refine dc ?_ ?_ | refine aj ?_ | refine am ?_ | refine aF fun K hK=>?_ | refine av ?_ | refine cf ?_ | refine bI ?_ | refine aA ?_ | refine bH ?_) | (with_reducible refine hK _ ?_;clear hK K) | ((with_reducible first | refine aI ?_ ?_ | refine ai ?_ ?_);(· decide)))
set_option maxRecDepth 100000 in
set_option maxHeartbeats 4000000 in
theorem zg (e : PC) : AFn Tryz.prog 117 [.agg (bR e),inA 0] [] (inA 1) []:=by
 obtain ⟨ek,es,ks⟩:=e
 simp only [bR]
 refine aC [] Tryz.func117 rfl Tryz.ntmps117 (Nat.le_of_ble_eq_true rfl) (Nat.le_of_ble_eq_true rfl) fun w0 G0 B0 Pr hB0=>?_
 simp only [aJ,aB,List.cons_append,List.nil_append]
 repeat' (first | (with_reducible refine hY _ ?_;clear hY Y) | ((with_reducible first | refine ar rfl (ay fun K' hK'=>aa ?_) | refine hK' _ (ab fun Y hY=>aa ?_) | refine ae tk0 bv (ab fun Y hY=>aa ?_));(try clear hK' K');(try dsimp only [aop]);try simp only [go_sem,seval,-Int.reduceNatCast,-Int.reduceNatCast',bv,Tryz.results117]) | (with_reducible first | refine ag ?_ | refine aj ?_ | refine am ?_ | refine aF fun K hK=>?_ | refine ap ?_ | refine bW ?_) | (with_reducible refine hK _ ?_;clear hK K))
 refine b9 (α:=Unit) (fun _=>[(1,inA 0),(2,.loc 10002 0),(5,inA 0),(6,inA 0),(10002,.bc [inA ek,.sl (bY es) es.length .none,.sl (db ks) ks.length .none] 51)]) (fun _=>True) (fun _=>0) () [1,2,5,6] ?_ trivial ?_
 ·simp only [go_sem,seval,-Int.reduceNatCast,-Int.reduceNatCast'] <;> rfl
 intro _ _ ih
 clear ih
 repeat' (first | (with_reducible refine hY _ ?_;clear hY Y) | ((with_reducible first | refine ar rfl (ay fun K' hK'=>aa ?_) | refine hK' _ (ab fun Y hY=>aa ?_) | refine ba rfl (ab fun Y hY=>aa ?_) | refine ab fun Y hY=>aa ?_ | refine ay fun K' hK'=>aa ?_ | refine ae tk0 bv (ab fun Y hY=>aa ?_) | refine aa ?_);(try clear hK' K');(try dsimp only [aop]);try simp only [go_sem,seval,-Int.reduceNatCast,-Int.reduceNatCast',bv,Tryz.results117]) | (with_reducible first | refine ag ?_ | refine aW rfl ?_ | refine aK ?_ | refine dc ?_ ?_ | refine aj ?_ | refine am ?_ | refine aF fun K hK=>?_ | refine av ?_ | refine cf ?_ | refine bI ?_ | refine ap ?_ | refine bH ?_ | refine bW ?_) | (with_reducible refine hK _ ?_;clear hK K) | ((with_reducible first | refine aI ?_ ?_ | refine ai ?_ ?_);(· decide)) | ((with_reducible refine ci (fun hc=>?_) (fun hc=>?_)) <;> (try simp only [decide_eq_true_eq,decide_eq_false_iff_not,Bool.not_true,Bool.not_false,Bool.not_eq_true',Bool.not_eq_false'] at hc) <;> (try (exfalso;omega))))
 all_goals
  refine b9 (α:=Unit) (fun _=>[(1,inA 0),(2,.loc 10002 0),(5,inA 0),(7,inA 0),(10002,.bc [inA ek,.sl (bY es) es.length .none,.sl (db ks) ks.length .none] 51)]) (fun _=>True) (fun _=>0) () [1,2,5,7] ?_ trivial ?_
 all_goals first
  | (simp only [go_sem,seval,-Int.reduceNatCast,-Int.reduceNatCast'] <;> rfl)
  | skip
 all_goals intro _ _ ih
 all_goals clear ih
 all_goals
  repeat' (first | (with_reducible refine hY _ ?_;clear hY Y) | ((with_reducible first | refine ar rfl (ay fun K' hK'=>aa ?_) | refine hK' _ (ab fun Y hY=>aa ?_) | refine ba rfl (ab fun Y hY=>aa ?_) | refine ab fun Y hY=>aa ?_ | refine ay fun K' hK'=>aa ?_ | refine ae tk0 bv (ab fun Y hY=>aa ?_) | refine aa ?_ | refine aq ?_);(try clear hK' K');(try dsimp only [aop]);try simp only [go_sem,seval,-Int.reduceNatCast,-Int.reduceNatCast',bv,Tryz.results117]) | (with_reducible first | refine ag ?_ | refine aW rfl ?_ | refine aK ?_ | refine dc ?_ ?_ | refine aj ?_ | refine am ?_ | refine aF fun K hK=>?_ | refine av ?_ | refine cf ?_ | refine bI ?_ | refine aA ?_ | refine bH ?_) | (with_reducible refine hK _ ?_;clear hK K) | ((with_reducible first | refine aI ?_ ?_ | refine ai ?_ ?_);(· decide)) | ((with_reducible refine ci (fun hc=>?_) (fun hc=>?_)) <;> (try simp only [decide_eq_true_eq,decide_eq_false_iff_not,Bool.not_true,Bool.not_false,Bool.not_eq_true',Bool.not_eq_false'] at hc) <;> (try (exfalso;omega))))
 all_goals rfl
theorem qv : ∀ (b : Nat),b≤100→∀ e,OkC e→AFn Tryz.prog 117 [.agg (bR e),inA (b : Int)] [] (inA (dC b e : Int)) []
 | 0,hb,e,ho=>zg e
 | b + 1,hb,e,ho=>zf b (by omega) (qv b (by omega)) e ho _ rfl
def cq : Nat→List Nat
 | 0=>[0,1]
 | 1=>[1,2]
 | 2=>[]
 | 3=>[1,2]
 | 4=>[1,2,5]
 | 5=>[1,2,5,6]
 | 6=>[1,2,5,6]
 | 7=>[1,2,5,6]
 | 8=>[5]
 | _=>[]
set_option maxRecDepth 100000 in
set_option maxHeartbeats 8000000 in
theorem zd (c : Nat) (hb : c≤100) (h : ∀ e,OkA e→AFn Tryz.prog 46 [.agg (paA e),inA (c : Int)] [] (inA (dA c e : Int)) []) (e : PA) (ho : OkA e) (n : Int) (hn : n = ((c + 1 : Nat) : Int)) :
  AFn Tryz.prog 46 [.agg (paA e),inA n] [] (inA (dA (c + 1) e : Int)) []:=by
 obtain ⟨ak,co,ex,vx,af,an,ks⟩:=e
 obtain ⟨_,hc,he,hv,_,_,hks,hko⟩:=ho
 unfold Lg at hks
 have hn0 : (n = 0) = False:=eq_false (by omega)
 have hn1 : (n == 0) = false:=by simp;omega
 have hnw : IntKind.i64.wrap (n - 1) = (c : Int):=by rw [bZ (by omega) (by omega)];omega
 have h1:=qv c hb co hc
 have h2:=iM c hb ex he
 have h3:=iM c hb vx hv
 have h4:=ke (dE c ex) (dE c vx)
 have h5:=ke (dC c co) (max (dE c ex) (dE c vx))
 have b1:=ss c co
 have b2:=jc c ex
 have b3:=jc c vx
 rw [dA]
 generalize dC c co = q1 at *
 generalize dE c ex = q2 at *
 generalize dE c vx = q3 at *
 obtain ⟨ck,ce,cks⟩:=co
 obtain ⟨ek,en,exn,eks⟩:=ex
 obtain ⟨vk,vn,vxn,vks⟩:=vx
 simp only [paA,bR,peA,List.cons_append,List.nil_append] at h1 h2 h3 ⊢
 obtain ⟨M,hM⟩ : ∃ M,M = max q1 (max q2 q3):=⟨_,rfl⟩
 rw [← hM] at h5 ⊢
 refine aC [] Tryz.func46 rfl Tryz.ntmps46 (Nat.le_of_ble_eq_true rfl) (Nat.le_of_ble_eq_true rfl) fun w0 G0 B0 Pr hB0=>?_
 simp only [aJ,aB,List.cons_append,List.nil_append]
 repeat' (first | (with_reducible refine hY _ ?_;clear hY Y) | ((with_reducible first | refine ar rfl (ay fun K' hK'=>aa ?_) | refine hK' _ (ab fun Y hY=>aa ?_) | refine ab fun Y hY=>aa ?_ | refine ae tk0 cq (ab fun Y hY=>aa ?_) | refine aa ?_ | refine cX rfl (dx fun K' hK'=>aa ?_) | refine hK' _ _ (ab fun Y hY=>aa ?_));(try clear hK' K');(try dsimp only [aop]);try simp only [go_sem,seval,-Int.reduceNatCast,-Int.reduceNatCast',cq,Tryz.results46,hn0,hn1,hnw]) | (with_reducible first | refine ag ?_ | refine aj ?_ | refine am ?_ | refine aF fun K hK=>?_ | refine av ?_ | refine ap ?_ | refine aD ?_ | refine bW ?_ | refine bV ?_ | refine eS fun K hK=>?_) | (with_reducible refine hK _ ?_;clear hK K) | (with_reducible refine hK _ _ ?_ ?_;(· kernel_rfl);clear hK K) | ((with_reducible refine ai ?_ ?_);(· decide)) | (with_reducible refine bU tk0 cq ?_ ?_;(· kernel_rfl)) | (with_reducible refine ac (h1) ?_) | (with_reducible refine ac (h2) ?_) | (with_reducible refine ac (h3) ?_) | (with_reducible refine ac (h4) ?_) | (with_reducible refine ac (h5) ?_))
 refine b9 (α:=Nat) (fun k=>[(1,inA n),(2,.loc 10002 0),(5,inA (max M (mxN ((ks.take k).map (dA c))) : Nat)),(6,inA (k : Int)),(10002,.bc [inA ak,inA ck,.sl (bY ce) ce.length .none,.sl (db cks) cks.length .none,inA ek,inA en,bs exn,.sl (bY eks) eks.length .none,inA vk,inA vn,bs vxn,.sl (bY vks) vks.length .none,bs af,inA an,.sl (eT ks) ks.length .none] 54)])
  (fun k=>k≤ks.length) (fun k=>ks.length - k) 0 [1,2,5,6] ?_ (Nat.zero_le _) ?_
 ·simp only [go_sem,seval,-Int.reduceNatCast,-Int.reduceNatCast'] <;> simp [mxN]
 intro k hk ih
 have hkw:=eB (n:=k) (by omega)
 clear h1 h2 h3 h4 h5
 by_cases hlt : k < ks.length
 ·have hlt' : ((k : Int) < (ks.length : Int)) = True:=eq_true (by omega)
  have hg0:=tR hlt
  have hfl:=nT ks
  have hm:=jL (dA c) hlt
  have h1:=h ks[k] (nO hko ks[k] (List.getElem_mem hlt))
  generalize ks[k] = t at *
  have h2:=ke (max M (mxN ((ks.take k).map (dA c)))) (dA c t)
  rw [show max (max M (mxN ((ks.take k).map (dA c)))) (dA c t) = max M (mxN ((ks.take (k + 1)).map (dA c))) by rw [hm];omega] at h2
  generalize dA c t = q at *
  obtain ⟨tk,⟨tck,tce,tcks⟩,⟨tek,ten,tex,teks⟩,⟨tvk,tvn,tvx,tvks⟩,tf,tn,tks⟩:=t
  simp only [paA,bR,peA,List.cons_append,List.nil_append] at hg0 h1
  repeat' (first | (with_reducible refine hY _ ?_;clear hY Y) | ((with_reducible first | refine ar rfl (ay fun K' hK'=>aa ?_) | refine hK' _ (ab fun Y hY=>aa ?_) | refine ab fun Y hY=>aa ?_ | refine ae tk0 cq (ab fun Y hY=>aa ?_) | refine aa ?_);(try clear hK' K');(try dsimp only [aop]);try simp only [go_sem,seval,-Int.reduceNatCast,-Int.reduceNatCast',cq,Tryz.results46,hlt',hnw,hfl,hg0,hkw]) | (with_reducible first | refine ag ?_ | refine aj ?_ | refine am ?_ | refine aF fun K hK=>?_ | refine ax ?_ | refine aR ?_ | refine ap ?_ | refine aD ?_) | (with_reducible refine hK _ ?_;clear hK K) | ((with_reducible refine ai ?_ ?_);(· decide)) | (with_reducible refine br ?_ ?_;(· (try and_intros) <;> first | omega | assumption | (simp only [List.length_append,List.length_map,List.length_cons,List.length_nil] <;> omega))) | (with_reducible refine ac (h1) ?_) | (with_reducible refine ac (h2) ?_))
  refine bi [1,2,5,6] (by simp only [go_sem,seval,-Int.reduceNatCast,-Int.reduceNatCast'];exact rfl) ?_
  exact ih (k + 1) (by omega) (by omega)
 have hlt' : ((k : Int) < (ks.length : Int)) = False:=eq_false (by omega)
 obtain rfl : k = ks.length:=by omega
 rw [List.take_length]
 have hm2:=iT (wK c) ks
 generalize mxN (ks.map (dA c)) = K2 at *
 have hdw:=eB (n:=max M K2) (by omega)
 repeat' (first | (with_reducible refine hY _ ?_;clear hY Y) | ((with_reducible first | refine ar rfl (ay fun K' hK'=>aa ?_) | refine hK' _ (ab fun Y hY=>aa ?_) | refine ab fun Y hY=>aa ?_ | refine ae tk0 cq (ab fun Y hY=>aa ?_) | refine aa ?_ | refine aq ?_);(try clear hK' K');(try dsimp only [aop]);try simp only [go_sem,seval,-Int.reduceNatCast,-Int.reduceNatCast',cq,Tryz.results46,hlt',hdw]) | (with_reducible first | refine ag ?_ | refine aj ?_ | refine am ?_ | refine aF fun K hK=>?_ | refine av ?_ | refine cf ?_ | refine bI ?_ | refine aA ?_ | refine bH ?_) | (with_reducible refine hK _ ?_;clear hK K) | ((with_reducible refine ai ?_ ?_);(· decide)))
set_option maxRecDepth 100000 in
theorem ze (e : PA) : AFn Tryz.prog 46 [.agg (paA e),inA 0] [] (inA 1) []:=by
 obtain ⟨ak,⟨ck,ce,cks⟩,⟨ek,en,exn,eks⟩,⟨vk,vn,vxn,vks⟩,af,an,ks⟩:=e
 simp only [paA,bR,peA,List.cons_append,List.nil_append]
 refine aC [] Tryz.func46 rfl Tryz.ntmps46 (Nat.le_of_ble_eq_true rfl) (Nat.le_of_ble_eq_true rfl) fun w0 G0 B0 Pr hB0=>?_
 simp only [aJ,aB,List.cons_append,List.nil_append]
 repeat' (first | (with_reducible refine hY _ ?_;clear hY Y) | ((with_reducible first | refine ar rfl (ay fun K' hK'=>aa ?_) | refine hK' _ (ab fun Y hY=>aa ?_) | refine ab fun Y hY=>aa ?_ | refine ae tk0 cq (ab fun Y hY=>aa ?_) | refine aa ?_ | refine aq ?_);(try clear hK' K');(try dsimp only [aop]);try simp only [go_sem,seval,-Int.reduceNatCast,-Int.reduceNatCast',cq,Tryz.results46]) | (with_reducible first | refine ag ?_ | refine aj ?_ | refine am ?_ | refine aF fun K hK=>?_ | refine ax ?_ | refine aZ ?_ | refine aA ?_) | (with_reducible refine hK _ ?_;clear hK K) | ((with_reducible refine ai ?_ ?_);(· decide)))
theorem nl : ∀ (b : Nat),b≤100→∀ e,OkA e→AFn Tryz.prog 46 [.agg (paA e),inA (b : Int)] [] (inA (dA b e : Int)) []
 | 0,hb,e,ho=>ze e
 | b + 1,hb,e,ho=>zd b (by omega) (nl b (by omega)) e ho _ rfl
end Go.Proofs.YtkjnkkmokojnpaaGreatDoor
namespace Go.Proofs.YtkjnkkmokojnpaaGreatDoor
set_option linter.unusedSimpArgs false
set_option linter.unusedVariables false
open Go.RowKit
def aY : Nat→List Nat
 | 0=>[0,1]
 | 1=>[1,2]
 | 2=>[]
 | 3=>[1,2]
 | 4=>[1,2,5]
 | 5=>[1,2,5]
 | 6=>[1,2,5,6]
 | 7=>[1,2,5,6]
 | 8=>[1,2,5,6]
 | 9=>[1,2,5]
 | 10=>[1,2,5,7]
 | 11=>[1,2,5,7]
 | 12=>[1,2,5,7]
 | 13=>[1,2,5]
 | 14=>[1,2,5,8]
 | 15=>[1,2,5,8]
 | 16=>[1,2,5,8]
 | 17=>[1,2,5]
 | 18=>[1,2,5,9]
 | 19=>[1,2,5,9]
 | 20=>[1,2,5,9]
 | 21=>[5]
 | _=>[]
set_option maxRecDepth 100000 in
set_option maxHeartbeats 16000000 in
theorem zi (c : Nat) (hb : c≤100) (h : ∀ e,OkS e→AFn Tryz.prog 47 [.agg (psA e),inA (c : Int)] [] (inA (dS c e : Int)) []) (e : PS') (ho : OkS e) (n : Int) (hn : n = ((c + 1 : Nat) : Int)) :
  AFn Tryz.prog 47 [.agg (psA e),inA n] [] (inA (dS (c + 1) e : Int)) []:=by
 obtain ⟨sk,x,y,z,e,v,co,a,rs,gs,fs,bd,els⟩:=e
 obtain ⟨_,_,_,_,he,hv,hc,ha,⟨hrs,hro⟩,⟨hgs,hgo⟩,_,⟨hbd,hbo⟩,hel,heo⟩:=ho
 unfold Lg at hrs hgs hbd hel
 have hn0 : (n = 0) = False:=eq_false (by omega)
 have hnw : IntKind.i64.wrap (n - 1) = (c : Int):=by rw [bZ (by omega) (by omega)];omega
 have h1:=qv c hb co hc
 have h2:=iM c hb e he
 have h3:=iM c hb v hv
 have h4:=nl c hb a ha
 have h5:=ke (dE c e) (dE c v)
 have h6:=ke (dC c co) (max (dE c e) (dE c v))
 have h7:=ke (max (dC c co) (max (dE c e) (dE c v))) (dA c a)
 have b1:=ss c co
 have b2:=jc c e
 have b3:=jc c v
 have b4:=wK c a
 rw [dS]
 generalize dC c co = q1 at *
 generalize dE c e = q2 at *
 generalize dE c v = q3 at *
 generalize dA c a = q4 at *
 obtain ⟨ck,ce,cks⟩:=co
 obtain ⟨ek,en,ex,eks⟩:=e
 obtain ⟨vk,vn,vx,vks⟩:=v
 obtain ⟨ak,⟨ack,ace,acks⟩,⟨aek,aen,aex,aeks⟩,⟨avk,avn,avx,avks⟩,af,an,aks⟩:=a
 simp only [psA,paA,bR,peA,List.cons_append,List.nil_append] at h1 h2 h3 h4 ⊢
 obtain ⟨m0,e0⟩ : ∃ m,m = max q2 q3:=⟨_,rfl⟩
 obtain ⟨m1,e1⟩ : ∃ m,m = max q1 m0:=⟨_,rfl⟩
 obtain ⟨M,e2⟩ : ∃ m,m = max m1 q4:=⟨_,rfl⟩
 rw [← e0] at h5 h6 h7 ⊢
 rw [← e1] at h6 h7 ⊢
 rw [← e2] at h7 ⊢
 have hM : M≤c + 1:=by omega
 clear e0 e1 e2
 refine aC [] Tryz.func47 rfl Tryz.ntmps47 (Nat.le_of_ble_eq_true rfl) (Nat.le_of_ble_eq_true rfl) fun w0 G0 B0 Pr hB0=>?_
 simp only [aJ,aB,List.cons_append,List.nil_append]
 repeat' (first | (with_reducible refine hY _ ?_;clear hY Y) | ((with_reducible first | refine ar rfl (ay fun K' hK'=>aa ?_) | refine hK' _ (ab fun Y hY=>aa ?_) | refine ab fun Y hY=>aa ?_ | refine ae tk0 aY (ab fun Y hY=>aa ?_) | refine aa ?_ | refine cX rfl (dx fun K' hK'=>aa ?_) | refine hK' _ _ (ab fun Y hY=>aa ?_));(try clear hK' K');(try dsimp only [aop]);try simp only [go_sem,seval,aY,Tryz.results47,hn0,hnw]) | (with_reducible first | refine ag ?_ | refine aj ?_ | refine am ?_ | refine aF fun K hK=>?_ | refine av ?_ | refine ap ?_ | refine aD ?_ | refine bW ?_ | refine bV ?_ | refine eS fun K hK=>?_) | (with_reducible refine hK _ ?_;clear hK K) | (with_reducible refine hK _ _ ?_ ?_;(· kernel_rfl);clear hK K) | ((with_reducible refine ai ?_ ?_);(· decide)) | (with_reducible refine bU tk0 aY ?_ ?_;(· kernel_rfl)) | (with_reducible refine ac (h1) ?_) | (with_reducible refine ac (h2) ?_) | (with_reducible refine ac (h3) ?_) | (with_reducible refine ac (h4) ?_) | (with_reducible refine ac (h5) ?_) | (with_reducible refine ac (h6) ?_) | (with_reducible refine ac (h7) ?_))
 clear h1 h2 h3 h4 h5 h6 h7 b1 b2 b3 b4
 refine b9 (α:=Nat) (fun k=>[(1,inA n),(2,.loc 10002 0),(5,inA (max M (mxN ((rs.take k).map (dE c))) : Nat)),(6,inA (k : Int)),(10002,.bc [inA sk,bs x,bs y,bs z,inA ek,inA en,bs ex,.sl (bY eks) eks.length .none,inA vk,inA vn,bs vx,.sl (bY vks) vks.length .none,inA ck,.sl (bY ce) ce.length .none,.sl (db cks) cks.length .none,inA ak,inA ack,.sl (bY ace) ace.length .none,.sl (db acks) acks.length .none,inA aek,inA aen,bs aex,.sl (bY aeks) aeks.length .none,inA avk,inA avn,bs avx,.sl (bY avks) avks.length .none,bs af,inA an,.sl (eT aks) aks.length .none,.sl (bY rs) rs.length .none,.sl (bY gs) gs.length .none,.sl (fs.map bs) fs.length .none,.sl (dU bd) bd.length .none,.sl (dU els) els.length .none] 57)])
  (fun k=>k≤rs.length) (fun k=>rs.length - k) 0 [1,2,5,6] ?_ (Nat.zero_le _) ?_
 ·simp only [go_sem,seval] <;> simp [mxN]
 intro k hk ih
 have hkw:=eB (n:=k) (by omega)
 by_cases hlt : k < rs.length
 ·have hlt' : ((k : Int) < (rs.length : Int)) = True:=eq_true (by omega)
  have hg0:=kQ hlt
  have hfl:=iK rs
  have hm:=jL (dE c) hlt
  have h1:=iM c hb rs[k] (iU hro rs[k] (List.getElem_mem hlt))
  generalize rs[k] = t at *
  have h2:=ke (max M (mxN ((rs.take k).map (dE c)))) (dE c t)
  rw [show max (max M (mxN ((rs.take k).map (dE c)))) (dE c t) = max M (mxN ((rs.take (k + 1)).map (dE c))) by rw [hm];omega] at h2
  generalize dE c t = q at *
  obtain ⟨tk,tn,tx,ts⟩:=t
  simp only [peA,List.cons_append,List.nil_append] at hg0 h1
  repeat' (first | (with_reducible refine hY _ ?_;clear hY Y) | ((with_reducible first | refine ar rfl (ay fun K' hK'=>aa ?_) | refine hK' _ (ab fun Y hY=>aa ?_) | refine ab fun Y hY=>aa ?_ | refine ae tk0 aY (ab fun Y hY=>aa ?_) | refine aa ?_);(try clear hK' K');(try dsimp only [aop]);try simp only [go_sem,seval,aY,Tryz.results47,hlt',hnw,hfl,hg0,hkw]) | (with_reducible first | refine ag ?_ | refine aj ?_ | refine am ?_ | refine aF fun K hK=>?_ | refine ax ?_ | refine aR ?_ | refine ap ?_ | refine aD ?_) | (with_reducible refine hK _ ?_;clear hK K) | ((with_reducible refine ai ?_ ?_);(· decide)) | (with_reducible refine br ?_ ?_;(· (try and_intros) <;> first | omega | assumption | (simp only [List.length_append,List.length_map,List.length_cons,List.length_nil] <;> omega))) | (with_reducible refine ac (h1) ?_) | (with_reducible refine ac (h2) ?_))
  refine bi [1,2,5,6] (by simp only [go_sem,seval];exact rfl) ?_
  exact ih (k + 1) (by omega) (by omega)
 have hlt' : ((k : Int) < (rs.length : Int)) = False:=eq_false (by omega)
 obtain rfl : k = rs.length:=by omega
 rw [List.take_length]
 clear ih hk hkw hlt
 have hm2:=iT (jc c) rs
 obtain ⟨M',hN0⟩ : ∃ m,m = max M (mxN (rs.map (dE c))):=⟨_,rfl⟩
 rw [← hN0]
 have hNle0 : M'≤c + 1:=by omega
 clear hm2
 repeat' (first | (with_reducible refine hY _ ?_;clear hY Y) | ((with_reducible first | refine ar rfl (ay fun K' hK'=>aa ?_) | refine hK' _ (ab fun Y hY=>aa ?_) | refine ab fun Y hY=>aa ?_ | refine ae tk0 aY (ab fun Y hY=>aa ?_));(try clear hK' K');(try dsimp only [aop]);try simp only [go_sem,seval,aY,Tryz.results47,hlt']) | (with_reducible first | refine ag ?_ | refine aj ?_ | refine am ?_ | refine aF fun K hK=>?_ | refine av ?_ | refine cf ?_ | refine bI ?_ | refine ap ?_ | refine bH ?_ | refine bW ?_) | (with_reducible refine hK _ ?_;clear hK K) | ((with_reducible refine ai ?_ ?_);(· decide)))
 clear hlt'
 refine b9 (α:=Nat) (fun k=>[(1,inA n),(2,.loc 10002 0),(5,inA (max M' (mxN ((gs.take k).map (dE c))) : Nat)),(7,inA (k : Int)),(10002,.bc [inA sk,bs x,bs y,bs z,inA ek,inA en,bs ex,.sl (bY eks) eks.length .none,inA vk,inA vn,bs vx,.sl (bY vks) vks.length .none,inA ck,.sl (bY ce) ce.length .none,.sl (db cks) cks.length .none,inA ak,inA ack,.sl (bY ace) ace.length .none,.sl (db acks) acks.length .none,inA aek,inA aen,bs aex,.sl (bY aeks) aeks.length .none,inA avk,inA avn,bs avx,.sl (bY avks) avks.length .none,bs af,inA an,.sl (eT aks) aks.length .none,.sl (bY rs) rs.length .none,.sl (bY gs) gs.length .none,.sl (fs.map bs) fs.length .none,.sl (dU bd) bd.length .none,.sl (dU els) els.length .none] 57)])
  (fun k=>k≤gs.length) (fun k=>gs.length - k) 0 [1,2,5,7] ?_ (Nat.zero_le _) ?_
 ·simp only [go_sem,seval] <;> simp [mxN]
 intro k hk ih
 have hkw:=eB (n:=k) (by omega)
 by_cases hlt : k < gs.length
 ·have hlt' : ((k : Int) < (gs.length : Int)) = True:=eq_true (by omega)
  have hg0:=kQ hlt
  have hfl:=iK gs
  have hm:=jL (dE c) hlt
  have h1:=iM c hb gs[k] (iU hgo gs[k] (List.getElem_mem hlt))
  generalize gs[k] = t at *
  have h2:=ke (max M' (mxN ((gs.take k).map (dE c)))) (dE c t)
  rw [show max (max M' (mxN ((gs.take k).map (dE c)))) (dE c t) = max M' (mxN ((gs.take (k + 1)).map (dE c))) by rw [hm];omega] at h2
  generalize dE c t = q at *
  obtain ⟨tk,tn,tx,ts⟩:=t
  simp only [peA,List.cons_append,List.nil_append] at hg0 h1
  repeat' (first | (with_reducible refine hY _ ?_;clear hY Y) | ((with_reducible first | refine ar rfl (ay fun K' hK'=>aa ?_) | refine hK' _ (ab fun Y hY=>aa ?_) | refine ab fun Y hY=>aa ?_ | refine ae tk0 aY (ab fun Y hY=>aa ?_) | refine aa ?_);(try clear hK' K');(try dsimp only [aop]);try simp only [go_sem,seval,aY,Tryz.results47,hlt',hnw,hfl,hg0,hkw]) | (with_reducible first | refine ag ?_ | refine aj ?_ | refine am ?_ | refine aF fun K hK=>?_ | refine ax ?_ | refine aR ?_ | refine ap ?_ | refine aD ?_) | (with_reducible refine hK _ ?_;clear hK K) | ((with_reducible refine ai ?_ ?_);(· decide)) | (with_reducible refine br ?_ ?_;(· (try and_intros) <;> first | omega | assumption | (simp only [List.length_append,List.length_map,List.length_cons,List.length_nil] <;> omega))) | (with_reducible refine ac (h1) ?_) | (with_reducible refine ac (h2) ?_))
  refine bi [1,2,5,7] (by simp only [go_sem,seval];exact rfl) ?_
  exact ih (k + 1) (by omega) (by omega)
 have hlt' : ((k : Int) < (gs.length : Int)) = False:=eq_false (by omega)
 obtain rfl : k = gs.length:=by omega
 rw [List.take_length]
 clear ih hk hkw hlt
 have hm2:=iT (jc c) gs
 obtain ⟨M'',hN1⟩ : ∃ m,m = max M' (mxN (gs.map (dE c))):=⟨_,rfl⟩
 rw [← hN1]
 have hNle1 : M''≤c + 1:=by omega
 clear hm2
 repeat' (first | (with_reducible refine hY _ ?_;clear hY Y) | ((with_reducible first | refine ar rfl (ay fun K' hK'=>aa ?_) | refine hK' _ (ab fun Y hY=>aa ?_) | refine ab fun Y hY=>aa ?_ | refine ae tk0 aY (ab fun Y hY=>aa ?_));(try clear hK' K');(try dsimp only [aop]);try simp only [go_sem,seval,aY,Tryz.results47,hlt']) | (with_reducible first | refine ag ?_ | refine aj ?_ | refine am ?_ | refine aF fun K hK=>?_ | refine av ?_ | refine cf ?_ | refine bI ?_ | refine ap ?_ | refine bH ?_ | refine bW ?_) | (with_reducible refine hK _ ?_;clear hK K) | ((with_reducible refine ai ?_ ?_);(· decide)))
 clear hlt'
 refine b9 (α:=Nat) (fun k=>[(1,inA n),(2,.loc 10002 0),(5,inA (max M'' (mxN ((bd.take k).map (dS c))) : Nat)),(8,inA (k : Int)),(10002,.bc [inA sk,bs x,bs y,bs z,inA ek,inA en,bs ex,.sl (bY eks) eks.length .none,inA vk,inA vn,bs vx,.sl (bY vks) vks.length .none,inA ck,.sl (bY ce) ce.length .none,.sl (db cks) cks.length .none,inA ak,inA ack,.sl (bY ace) ace.length .none,.sl (db acks) acks.length .none,inA aek,inA aen,bs aex,.sl (bY aeks) aeks.length .none,inA avk,inA avn,bs avx,.sl (bY avks) avks.length .none,bs af,inA an,.sl (eT aks) aks.length .none,.sl (bY rs) rs.length .none,.sl (bY gs) gs.length .none,.sl (fs.map bs) fs.length .none,.sl (dU bd) bd.length .none,.sl (dU els) els.length .none] 57)])
  (fun k=>k≤bd.length) (fun k=>bd.length - k) 0 [1,2,5,8] ?_ (Nat.zero_le _) ?_
 ·simp only [go_sem,seval] <;> simp [mxN]
 intro k hk ih
 have hkw:=eB (n:=k) (by omega)
 by_cases hlt : k < bd.length
 ·have hlt' : ((k : Int) < (bd.length : Int)) = True:=eq_true (by omega)
  have hg0:=kS hlt
  have hfl:=jk bd
  have hm:=jL (dS c) hlt
  have h1:=h bd[k] (kl hbo bd[k] (List.getElem_mem hlt))
  generalize bd[k] = t at *
  have h2:=ke (max M'' (mxN ((bd.take k).map (dS c)))) (dS c t)
  rw [show max (max M'' (mxN ((bd.take k).map (dS c)))) (dS c t) = max M'' (mxN ((bd.take (k + 1)).map (dS c))) by rw [hm];omega] at h2
  generalize dS c t = q at *
  obtain ⟨tk,tx,ty,tz,⟨tek,ten,tex,teks⟩,⟨tvk,tvn,tvx,tvks⟩,⟨tck,tce,tcks⟩,⟨tak,⟨tack,tace,tacks⟩,⟨taek,taen,taex,taeks⟩,⟨tavk,tavn,tavx,tavks⟩,taf,tan,taks⟩,trs,tgs,tfs,tbd,tels⟩:=t
  simp only [psA,paA,bR,peA,List.cons_append,List.nil_append] at hg0 h1
  repeat' (first | (with_reducible refine hY _ ?_;clear hY Y) | ((with_reducible first | refine ar rfl (ay fun K' hK'=>aa ?_) | refine hK' _ (ab fun Y hY=>aa ?_) | refine ab fun Y hY=>aa ?_ | refine ae tk0 aY (ab fun Y hY=>aa ?_) | refine aa ?_);(try clear hK' K');(try dsimp only [aop]);try simp only [go_sem,seval,aY,Tryz.results47,hlt',hnw,hfl,hg0,hkw]) | (with_reducible first | refine ag ?_ | refine aj ?_ | refine am ?_ | refine aF fun K hK=>?_ | refine ax ?_ | refine aR ?_ | refine ap ?_ | refine aD ?_) | (with_reducible refine hK _ ?_;clear hK K) | ((with_reducible refine ai ?_ ?_);(· decide)) | (with_reducible refine br ?_ ?_;(· (try and_intros) <;> first | omega | assumption | (simp only [List.length_append,List.length_map,List.length_cons,List.length_nil] <;> omega))) | (with_reducible refine ac (h1) ?_) | (with_reducible refine ac (h2) ?_))
  refine bi [1,2,5,8] (by simp only [go_sem,seval];exact rfl) ?_
  exact ih (k + 1) (by omega) (by omega)
 have hlt' : ((k : Int) < (bd.length : Int)) = False:=eq_false (by omega)
 obtain rfl : k = bd.length:=by omega
 rw [List.take_length]
 clear ih hk hkw hlt
 have hm2:=iT (wL c) bd
 obtain ⟨M''',hN2⟩ : ∃ m,m = max M'' (mxN (bd.map (dS c))):=⟨_,rfl⟩
 rw [← hN2]
 have hNle2 : M'''≤c + 1:=by omega
 clear hm2
 repeat' (first | (with_reducible refine hY _ ?_;clear hY Y) | ((with_reducible first | refine ar rfl (ay fun K' hK'=>aa ?_) | refine hK' _ (ab fun Y hY=>aa ?_) | refine ab fun Y hY=>aa ?_ | refine ae tk0 aY (ab fun Y hY=>aa ?_));(try clear hK' K');(try dsimp only [aop]);try simp only [go_sem,seval,aY,Tryz.results47,hlt']) | (with_reducible first | refine ag ?_ | refine aj ?_ | refine am ?_ | refine aF fun K hK=>?_ | refine av ?_ | refine cf ?_ | refine bI ?_ | refine ap ?_ | refine bH ?_ | refine bW ?_) | (with_reducible refine hK _ ?_;clear hK K) | ((with_reducible refine ai ?_ ?_);(· decide)))
 clear hlt'
 refine b9 (α:=Nat) (fun k=>[(1,inA n),(2,.loc 10002 0),(5,inA (max M''' (mxN ((els.take k).map (dS c))) : Nat)),(9,inA (k : Int)),(10002,.bc [inA sk,bs x,bs y,bs z,inA ek,inA en,bs ex,.sl (bY eks) eks.length .none,inA vk,inA vn,bs vx,.sl (bY vks) vks.length .none,inA ck,.sl (bY ce) ce.length .none,.sl (db cks) cks.length .none,inA ak,inA ack,.sl (bY ace) ace.length .none,.sl (db acks) acks.length .none,inA aek,inA aen,bs aex,.sl (bY aeks) aeks.length .none,inA avk,inA avn,bs avx,.sl (bY avks) avks.length .none,bs af,inA an,.sl (eT aks) aks.length .none,.sl (bY rs) rs.length .none,.sl (bY gs) gs.length .none,.sl (fs.map bs) fs.length .none,.sl (dU bd) bd.length .none,.sl (dU els) els.length .none] 57)])
  (fun k=>k≤els.length) (fun k=>els.length - k) 0 [1,2,5,9] ?_ (Nat.zero_le _) ?_
 ·simp only [go_sem,seval] <;> simp [mxN]
 intro k hk ih
 have hkw:=eB (n:=k) (by omega)
 by_cases hlt : k < els.length
 ·have hlt' : ((k : Int) < (els.length : Int)) = True:=eq_true (by omega)
  have hg0:=kS hlt
  have hfl:=jk els
  have hm:=jL (dS c) hlt
  have h1:=h els[k] (kl heo els[k] (List.getElem_mem hlt))
  generalize els[k] = t at *
  have h2:=ke (max M''' (mxN ((els.take k).map (dS c)))) (dS c t)
  rw [show max (max M''' (mxN ((els.take k).map (dS c)))) (dS c t) = max M''' (mxN ((els.take (k + 1)).map (dS c))) by rw [hm];omega] at h2
  generalize dS c t = q at *
  obtain ⟨tk,tx,ty,tz,⟨tek,ten,tex,teks⟩,⟨tvk,tvn,tvx,tvks⟩,⟨tck,tce,tcks⟩,⟨tak,⟨tack,tace,tacks⟩,⟨taek,taen,taex,taeks⟩,⟨tavk,tavn,tavx,tavks⟩,taf,tan,taks⟩,trs,tgs,tfs,tbd,tels⟩:=t
  simp only [psA,paA,bR,peA,List.cons_append,List.nil_append] at hg0 h1
  repeat' (first | (with_reducible refine hY _ ?_;clear hY Y) | ((with_reducible first | refine ar rfl (ay fun K' hK'=>aa ?_) | refine hK' _ (ab fun Y hY=>aa ?_) | refine ab fun Y hY=>aa ?_ | refine ae tk0 aY (ab fun Y hY=>aa ?_) | refine aa ?_);(try clear hK' K');(try dsimp only [aop]);try simp only [go_sem,seval,aY,Tryz.results47,hlt',hnw,hfl,hg0,hkw]) | (with_reducible first | refine ag ?_ | refine aj ?_ | refine am ?_ | refine aF fun K hK=>?_ | refine ax ?_ | refine aR ?_ | refine ap ?_ | refine aD ?_) | (with_reducible refine hK _ ?_;clear hK K) | ((with_reducible refine ai ?_ ?_);(· decide)) | (with_reducible refine br ?_ ?_;(· (try and_intros) <;> first | omega | assumption | (simp only [List.length_append,List.length_map,List.length_cons,List.length_nil] <;> omega))) | (with_reducible refine ac (h1) ?_) | (with_reducible refine ac (h2) ?_))
  refine bi [1,2,5,9] (by simp only [go_sem,seval];exact rfl) ?_
  exact ih (k + 1) (by omega) (by omega)
 have hlt' : ((k : Int) < (els.length : Int)) = False:=eq_false (by omega)
 obtain rfl : k = els.length:=by omega
 rw [List.take_length]
 clear ih hk hkw hlt
 have hm2:=iT (wL c) els
 obtain ⟨M'''',hN3⟩ : ∃ m,m = max M''' (mxN (els.map (dS c))):=⟨_,rfl⟩
 rw [← hN3]
 have hNle3 : M''''≤c + 1:=by omega
 clear hm2
 have hdw:=eB (n:=M'''') (by omega)
 repeat' (first | (with_reducible refine hY _ ?_;clear hY Y) | ((with_reducible first | refine ar rfl (ay fun K' hK'=>aa ?_) | refine hK' _ (ab fun Y hY=>aa ?_) | refine ab fun Y hY=>aa ?_ | refine ae tk0 aY (ab fun Y hY=>aa ?_) | refine aa ?_ | refine aq ?_);(try clear hK' K');(try dsimp only [aop]);try simp only [go_sem,seval,aY,Tryz.results47,hlt',hdw]) | (with_reducible first | refine ag ?_ | refine aj ?_ | refine am ?_ | refine aF fun K hK=>?_ | refine av ?_ | refine cf ?_ | refine bI ?_ | refine aA ?_ | refine bH ?_) | (with_reducible refine hK _ ?_;clear hK K) | ((with_reducible refine ai ?_ ?_);(· decide)))
set_option maxRecDepth 100000 in
theorem zj (e : PS') : AFn Tryz.prog 47 [.agg (psA e),inA 0] [] (inA 1) []:=by
 obtain ⟨sk,x,y,z,⟨ek,en,ex,eks⟩,⟨vk,vn,vx,vks⟩,⟨ck,ce,cks⟩,⟨ak,⟨ack,ace,acks⟩,⟨aek,aen,aex,aeks⟩,⟨avk,avn,avx,avks⟩,af,an,aks⟩,rs,gs,fs,bd,els⟩:=e
 simp only [psA,paA,bR,peA,List.cons_append,List.nil_append]
 refine aC [] Tryz.func47 rfl Tryz.ntmps47 (Nat.le_of_ble_eq_true rfl) (Nat.le_of_ble_eq_true rfl) fun w0 G0 B0 Pr hB0=>?_
 simp only [aJ,aB,List.cons_append,List.nil_append]
 repeat' (first | (with_reducible refine hY _ ?_;clear hY Y) | ((with_reducible first | refine ar rfl (ay fun K' hK'=>aa ?_) | refine hK' _ (ab fun Y hY=>aa ?_) | refine ab fun Y hY=>aa ?_ | refine ae tk0 aY (ab fun Y hY=>aa ?_) | refine aa ?_ | refine aq ?_);(try clear hK' K');(try dsimp only [aop]);try simp only [go_sem,seval,aY,Tryz.results47]) | (with_reducible first | refine ag ?_ | refine aj ?_ | refine am ?_ | refine aF fun K hK=>?_ | refine ax ?_ | refine aZ ?_ | refine aA ?_) | (with_reducible refine hK _ ?_;clear hK K) | ((with_reducible refine ai ?_ ?_);(· decide)))
theorem uz : ∀ (b : Nat),b≤100→∀ e,OkS e→AFn Tryz.prog 47 [.agg (psA e),inA (b : Int)] [] (inA (dS b e : Int)) []
 | 0,hb,e,ho=>zj e
 | b + 1,hb,e,ho=>zi b (by omega) (uz b (by omega)) e ho _ rfl
end Go.Proofs.YtkjnkkmokojnpaaGreatDoor
